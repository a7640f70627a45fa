-- Laid by hp.py (a program of this session's) through the kit's printer. (squeezed)
import Derived.Test.YtpehicdglooeaaaPTx0
import Derived.Test.YtpehicdglooeaaaPTx14
import Derived.Test.YtpehicdglooeaaaPTx15
import Derived.Test.YtpehicdglooeaaaPTx18
import Derived.Test.YtpehicdglooeaaaPTx19
import Derived.Test.YtpehicdglooeaaaPTx20
namespace Go.Proofs.Ytpehicdglooeaaa.PT
open Go.RowKit Go.Proofs.YtpehicdglooeaaaW.PrintWords Go.Proofs.YtpehicdglooeaaaW.PrintLast Go.Proofs.YtpehicdglooeaaaW.PrintMore
attribute [local go_sem] max2_int min2_int max_two min_two max_three min_three max_four min_four   -- for this text's walks alone
set_option linter.unusedVariables false
set_option linter.unusedSimpArgs false
-- HAND 9 plenumlaw36_awake
theorem plenumlaw36_awake0.ff {r : Bool} (hr : r = true) {P : Prop} (H : (some false : Option Bool) = some r) : P := by subst hr; cases H
/-! ### plenumlaw36_awake: function 9 -/
def plenumlaw36_awake0.f (k : Nat)  : Option (Bool) := if 20 ≤ 35184372088832 then ((some (List.replicate 20 0 : List Int)).bind fun y167 => ((optimal_Start.f k 0 6000 18000 19000 0 20 false y167).bind fun bt170 => ((optimal_Reach.f k 0 6000 18000 19000 0 20 false y167 11).bind fun bt172 => ((optimal_Start.f k 0 6000 18000 20001 0 20 false y167).bind fun bt174 => ((optimal_Learn.f k (([20000, 19980] : List Int)) (([0] : List Int))).bind fun bt182 => ((optimal_Deviation.f k 60 (([20000, 19980] : List Int)) (([0] : List Int))).bind fun bt190 => (if 2 ≤ (y167.length : Int) then ((optimal_Stop.f k 60 0 20000 20000 0 2 false (y167.take 2) 20).bind fun bt197 => ((optimal_Stop.f k 60 0 20000 20000 0 2 false (y167.take 2) 40).bind fun bt203 => (if bt170.2 = 0 then (if bt170.1 = 10 then (if bt172.2 = 0 then (if bt172.1 = 18900 then (if bt174.2 = 9 then (if bt182.2 = 0 then (if bt182.1 = 58 then (if bt190.2 = 0 then (if bt190.1 = 0 then (if bt197.2 = 0 then (if bt197.1 = 1 then (if bt203.2 = 0 then (some (bt203.1 == 0)) else (some false)) else (some false)) else (some false)) else (some false)) else (some false)) else (some false)) else (some false)) else (some false)) else (some false)) else (some false)) else (some false)) else (some false)))) else (none)))))))) else (none)
theorem plenumlaw36_awake0.mono : ∀ k, LeO (plenumlaw36_awake0.f k ) (plenumlaw36_awake0.f (k + 1) ) := by
 intro  k
 unfold plenumlaw36_awake0.f
 repeat' first
  | (with_reducible exact optimal_Deviation.mono _ _ _ _)
  | (with_reducible exact optimal_Learn.mono _ _ _)
  | (with_reducible exact optimal_Reach.mono _ _ _ _ _ _ _ _ _ _)
  | (with_reducible exact optimal_Start.mono _ _ _ _ _ _ _ _ _)
  | (with_reducible exact optimal_Stop.mono _ _ _ _ _ _ _ _ _ _)
  | (with_reducible exact LeO.refl _)
  | (with_reducible exact LeO.none _)
  | (with_reducible refine LeO.ite ?_ ?_)
  | (with_reducible refine LeO.bind ?_ (fun _ => ?_))
  | exact optimal_Deviation.mono _ _ _ _
  | exact optimal_Learn.mono _ _ _
  | exact optimal_Reach.mono _ _ _ _ _ _ _ _ _ _
  | exact optimal_Start.mono _ _ _ _ _ _ _ _ _
  | exact optimal_Stop.mono _ _ _ _ _ _ _ _ _ _
  | exact LeO.none _
  | refine LeO.ite ?_ ?_
  | refine LeO.bind ?_ (fun _ => ?_)
def plenumlaw36_awake0.T11 : Bool × List (List Nat × List Nat) := (true, [([], []), ([], []), ([], []), ([2], [2]), ([0, 1, 3], [0, 1, 3]), ([4], [4]), ([5], [5]), ([5], [5]), ([6, 4, 0, 1, 2, 3, 4, 5, 6], [6]), ([7, 8, 0, 1, 2, 3, 4, 5, 6, 7, 8], [7])])
def plenumlaw36_awake0.B11 : List Nat := [0, 0, 0, 4, 15, 31, 63, 63, 127, 511]
theorem plenumlaw36_awake0.tab11 : rtab .any (opsOf Try.f9 11) = plenumlaw36_awake0.T11 := by kernel_rfl
theorem plenumlaw36_awake0.bits11 : waitsOk plenumlaw36_awake0.T11.2 plenumlaw36_awake0.B11 = true := by kernel_rfl
def plenumlaw36_awake0.T12 : Bool × List (List Nat × List Nat) := (true, [([], []), ([], []), ([], []), ([2], [2]), ([0, 1, 3], [0, 1, 3]), ([4], [4]), ([5], [5]), ([5], [5]), ([6, 4, 0, 1, 2, 3, 4, 5, 6], [6]), ([7, 8, 0, 1, 2, 3, 4, 5, 6, 7, 8], [7])])
def plenumlaw36_awake0.B12 : List Nat := [0, 0, 0, 4, 15, 31, 63, 63, 127, 511]
theorem plenumlaw36_awake0.tab12 : rtab .any (opsOf Try.f9 12) = plenumlaw36_awake0.T12 := by kernel_rfl
theorem plenumlaw36_awake0.bits12 : waitsOk plenumlaw36_awake0.T12.2 plenumlaw36_awake0.B12 = true := by kernel_rfl
set_option maxHeartbeats 8000000 in
set_option maxRecDepth 100000 in
theorem plenumlaw36_awake0.callsT (k : Nat)  (r : Bool) (hr_ : r = true) (w : World) (h : plenumlaw36_awake0.f k  = some r) :
 Calls Try.prog 9 #[] w fun e w' => e = .returned (.bool r) ∧ Below w.heap.size w w' := by
 have hu23 := Try.underlying23
 have hu32 := Try.underlying32
 have HB := Aside0.mk (Below.refl w.heap.size w)
 have H : (if 20 ≤ 35184372088832 then ((some (List.replicate 20 0 : List Int)).bind fun y167 => ((optimal_Start.f k 0 6000 18000 19000 0 20 false y167).bind fun bt170 => ((optimal_Reach.f k 0 6000 18000 19000 0 20 false y167 11).bind fun bt172 => ((optimal_Start.f k 0 6000 18000 20001 0 20 false y167).bind fun bt174 => ((optimal_Learn.f k (([20000, 19980] : List Int)) (([0] : List Int))).bind fun bt182 => ((optimal_Deviation.f k 60 (([20000, 19980] : List Int)) (([0] : List Int))).bind fun bt190 => (if 2 ≤ (y167.length : Int) then ((optimal_Stop.f k 60 0 20000 20000 0 2 false (y167.take 2) 20).bind fun bt197 => ((optimal_Stop.f k 60 0 20000 20000 0 2 false (y167.take 2) 40).bind fun bt203 => (if bt170.2 = 0 then (if bt170.1 = 10 then (if bt172.2 = 0 then (if bt172.1 = 18900 then (if bt174.2 = 9 then (if bt182.2 = 0 then (if bt182.1 = 58 then (if bt190.2 = 0 then (if bt190.1 = 0 then (if bt197.2 = 0 then (if bt197.1 = 1 then (if bt203.2 = 0 then (some (bt203.1 == 0)) else (some false)) else (some false)) else (some false)) else (some false)) else (some false)) else (some false)) else (some false)) else (some false)) else (some false)) else (some false)) else (some false)) else (some false)))) else (none)))))))) else (none)) = some r := h
 clear h
 have HR_ := Aside0.mk hr_
 clear hr_
 by_cases c1 : 20 ≤ 35184372088832
 ·
  rw [if_pos c1] at H
  have c1b0 := eq_true c1
  have c1b1 : decide (20 ≤ 35184372088832) = true := decide_eq_true c1
  clear c1
  obtain ⟨y167, hy167⟩ : ∃ y_ : List Int, y_ = (List.replicate 20 0) := ⟨_, rfl⟩
  replace H : ((optimal_Start.f k 0 6000 18000 19000 0 20 false y167).bind fun bt170 => ((optimal_Reach.f k 0 6000 18000 19000 0 20 false y167 11).bind fun bt172 => ((optimal_Start.f k 0 6000 18000 20001 0 20 false y167).bind fun bt174 => ((optimal_Learn.f k (([20000, 19980] : List Int)) (([0] : List Int))).bind fun bt182 => ((optimal_Deviation.f k 60 (([20000, 19980] : List Int)) (([0] : List Int))).bind fun bt190 => (if 2 ≤ (y167.length : Int) then ((optimal_Stop.f k 60 0 20000 20000 0 2 false (y167.take 2) 20).bind fun bt197 => ((optimal_Stop.f k 60 0 20000 20000 0 2 false (y167.take 2) 40).bind fun bt203 => (if bt170.2 = 0 then (if bt170.1 = 10 then (if bt172.2 = 0 then (if bt172.1 = 18900 then (if bt174.2 = 9 then (if bt182.2 = 0 then (if bt182.1 = 58 then (if bt190.2 = 0 then (if bt190.1 = 0 then (if bt197.2 = 0 then (if bt197.1 = 1 then (if bt203.2 = 0 then (some (bt203.1 == 0)) else (some false)) else (some false)) else (some false)) else (some false)) else (some false)) else (some false)) else (some false)) else (some false)) else (some false)) else (some false)) else (some false)) else (some false)))) else (none))))))) = some r := by first | (rw [hy167]; with_reducible exact H) | (have H2_ := (Option.bind_some _ _).symm.trans H; rw [hy167]; with_reducible exact H2_) | (have H2_ := (Option.bind_some _ _).symm.trans H; with_reducible exact H2_) | with_reducible exact H | (rw [hy167]; exact H) | exact H
  have Ny167 := Aside0.mk hy167
  clear hy167
  replace H := Option.bind_eq_some_iff.mp H
  obtain ⟨⟨t170, t171⟩, A20, H⟩ := H
  replace H : ((optimal_Reach.f k 0 6000 18000 19000 0 20 false y167 11).bind fun bt172 => ((optimal_Start.f k 0 6000 18000 20001 0 20 false y167).bind fun bt174 => ((optimal_Learn.f k (([20000, 19980] : List Int)) (([0] : List Int))).bind fun bt182 => ((optimal_Deviation.f k 60 (([20000, 19980] : List Int)) (([0] : List Int))).bind fun bt190 => (if 2 ≤ (y167.length : Int) then ((optimal_Stop.f k 60 0 20000 20000 0 2 false (y167.take 2) 20).bind fun bt197 => ((optimal_Stop.f k 60 0 20000 20000 0 2 false (y167.take 2) 40).bind fun bt203 => (if t171 = 0 then (if t170 = 10 then (if bt172.2 = 0 then (if bt172.1 = 18900 then (if bt174.2 = 9 then (if bt182.2 = 0 then (if bt182.1 = 58 then (if bt190.2 = 0 then (if bt190.1 = 0 then (if bt197.2 = 0 then (if bt197.1 = 1 then (if bt203.2 = 0 then (some (bt203.1 == 0)) else (some false)) else (some false)) else (some false)) else (some false)) else (some false)) else (some false)) else (some false)) else (some false)) else (some false)) else (some false)) else (some false)) else (some false)))) else (none)))))) = some r := H
  have A2 := Aside0.mk A20
  clear A20
  replace H := Option.bind_eq_some_iff.mp H
  obtain ⟨⟨t172, t173⟩, A30, H⟩ := H
  replace H : ((optimal_Start.f k 0 6000 18000 20001 0 20 false y167).bind fun bt174 => ((optimal_Learn.f k (([20000, 19980] : List Int)) (([0] : List Int))).bind fun bt182 => ((optimal_Deviation.f k 60 (([20000, 19980] : List Int)) (([0] : List Int))).bind fun bt190 => (if 2 ≤ (y167.length : Int) then ((optimal_Stop.f k 60 0 20000 20000 0 2 false (y167.take 2) 20).bind fun bt197 => ((optimal_Stop.f k 60 0 20000 20000 0 2 false (y167.take 2) 40).bind fun bt203 => (if t171 = 0 then (if t170 = 10 then (if t173 = 0 then (if t172 = 18900 then (if bt174.2 = 9 then (if bt182.2 = 0 then (if bt182.1 = 58 then (if bt190.2 = 0 then (if bt190.1 = 0 then (if bt197.2 = 0 then (if bt197.1 = 1 then (if bt203.2 = 0 then (some (bt203.1 == 0)) else (some false)) else (some false)) else (some false)) else (some false)) else (some false)) else (some false)) else (some false)) else (some false)) else (some false)) else (some false)) else (some false)) else (some false)))) else (none))))) = some r := H
  have A3 := Aside0.mk A30
  clear A30
  replace H := Option.bind_eq_some_iff.mp H
  obtain ⟨⟨t174, t175⟩, A40, H⟩ := H
  replace H : ((optimal_Learn.f k (([20000, 19980] : List Int)) (([0] : List Int))).bind fun bt182 => ((optimal_Deviation.f k 60 (([20000, 19980] : List Int)) (([0] : List Int))).bind fun bt190 => (if 2 ≤ (y167.length : Int) then ((optimal_Stop.f k 60 0 20000 20000 0 2 false (y167.take 2) 20).bind fun bt197 => ((optimal_Stop.f k 60 0 20000 20000 0 2 false (y167.take 2) 40).bind fun bt203 => (if t171 = 0 then (if t170 = 10 then (if t173 = 0 then (if t172 = 18900 then (if t175 = 9 then (if bt182.2 = 0 then (if bt182.1 = 58 then (if bt190.2 = 0 then (if bt190.1 = 0 then (if bt197.2 = 0 then (if bt197.1 = 1 then (if bt203.2 = 0 then (some (bt203.1 == 0)) else (some false)) else (some false)) else (some false)) else (some false)) else (some false)) else (some false)) else (some false)) else (some false)) else (some false)) else (some false)) else (some false)) else (some false)))) else (none)))) = some r := H
  have A4 := Aside0.mk A40
  clear A40
  obtain ⟨y176, hy176⟩ : ∃ y_ : List Int, y_ = (([20000, 19980] : List Int)) := ⟨_, rfl⟩
  replace H : ((optimal_Learn.f k y176 (([0] : List Int))).bind fun bt182 => ((optimal_Deviation.f k 60 (([20000, 19980] : List Int)) (([0] : List Int))).bind fun bt190 => (if 2 ≤ (y167.length : Int) then ((optimal_Stop.f k 60 0 20000 20000 0 2 false (y167.take 2) 20).bind fun bt197 => ((optimal_Stop.f k 60 0 20000 20000 0 2 false (y167.take 2) 40).bind fun bt203 => (if t171 = 0 then (if t170 = 10 then (if t173 = 0 then (if t172 = 18900 then (if t175 = 9 then (if bt182.2 = 0 then (if bt182.1 = 58 then (if bt190.2 = 0 then (if bt190.1 = 0 then (if bt197.2 = 0 then (if bt197.1 = 1 then (if bt203.2 = 0 then (some (bt203.1 == 0)) else (some false)) else (some false)) else (some false)) else (some false)) else (some false)) else (some false)) else (some false)) else (some false)) else (some false)) else (some false)) else (some false)) else (some false)))) else (none)))) = some r := by first | (rw [hy176]; with_reducible exact H) | (have H2_ := (Option.bind_some _ _).symm.trans H; rw [hy176]; with_reducible exact H2_) | (have H2_ := (Option.bind_some _ _).symm.trans H; with_reducible exact H2_) | with_reducible exact H | (rw [hy176]; exact H) | exact H
  have Ny176 := Aside0.mk hy176
  clear hy176
  obtain ⟨y179, hy179⟩ : ∃ y_ : List Int, y_ = (([0] : List Int)) := ⟨_, rfl⟩
  replace H : ((optimal_Learn.f k y176 y179).bind fun bt182 => ((optimal_Deviation.f k 60 (([20000, 19980] : List Int)) (([0] : List Int))).bind fun bt190 => (if 2 ≤ (y167.length : Int) then ((optimal_Stop.f k 60 0 20000 20000 0 2 false (y167.take 2) 20).bind fun bt197 => ((optimal_Stop.f k 60 0 20000 20000 0 2 false (y167.take 2) 40).bind fun bt203 => (if t171 = 0 then (if t170 = 10 then (if t173 = 0 then (if t172 = 18900 then (if t175 = 9 then (if bt182.2 = 0 then (if bt182.1 = 58 then (if bt190.2 = 0 then (if bt190.1 = 0 then (if bt197.2 = 0 then (if bt197.1 = 1 then (if bt203.2 = 0 then (some (bt203.1 == 0)) else (some false)) else (some false)) else (some false)) else (some false)) else (some false)) else (some false)) else (some false)) else (some false)) else (some false)) else (some false)) else (some false)) else (some false)))) else (none)))) = some r := by first | (rw [hy179]; with_reducible exact H) | (have H2_ := (Option.bind_some _ _).symm.trans H; rw [hy179]; with_reducible exact H2_) | (have H2_ := (Option.bind_some _ _).symm.trans H; with_reducible exact H2_) | with_reducible exact H | (rw [hy179]; exact H) | exact H
  have Ny179 := Aside0.mk hy179
  clear hy179
  replace H := Option.bind_eq_some_iff.mp H
  obtain ⟨⟨t182, t183⟩, A50, H⟩ := H
  replace H : ((optimal_Deviation.f k 60 (([20000, 19980] : List Int)) (([0] : List Int))).bind fun bt190 => (if 2 ≤ (y167.length : Int) then ((optimal_Stop.f k 60 0 20000 20000 0 2 false (y167.take 2) 20).bind fun bt197 => ((optimal_Stop.f k 60 0 20000 20000 0 2 false (y167.take 2) 40).bind fun bt203 => (if t171 = 0 then (if t170 = 10 then (if t173 = 0 then (if t172 = 18900 then (if t175 = 9 then (if t183 = 0 then (if t182 = 58 then (if bt190.2 = 0 then (if bt190.1 = 0 then (if bt197.2 = 0 then (if bt197.1 = 1 then (if bt203.2 = 0 then (some (bt203.1 == 0)) else (some false)) else (some false)) else (some false)) else (some false)) else (some false)) else (some false)) else (some false)) else (some false)) else (some false)) else (some false)) else (some false)) else (some false)))) else (none))) = some r := H
  have A5 := Aside0.mk A50
  clear A50
  obtain ⟨y184, hy184⟩ : ∃ y_ : List Int, y_ = (([20000, 19980] : List Int)) := ⟨_, rfl⟩
  replace H : ((optimal_Deviation.f k 60 y184 (([0] : List Int))).bind fun bt190 => (if 2 ≤ (y167.length : Int) then ((optimal_Stop.f k 60 0 20000 20000 0 2 false (y167.take 2) 20).bind fun bt197 => ((optimal_Stop.f k 60 0 20000 20000 0 2 false (y167.take 2) 40).bind fun bt203 => (if t171 = 0 then (if t170 = 10 then (if t173 = 0 then (if t172 = 18900 then (if t175 = 9 then (if t183 = 0 then (if t182 = 58 then (if bt190.2 = 0 then (if bt190.1 = 0 then (if bt197.2 = 0 then (if bt197.1 = 1 then (if bt203.2 = 0 then (some (bt203.1 == 0)) else (some false)) else (some false)) else (some false)) else (some false)) else (some false)) else (some false)) else (some false)) else (some false)) else (some false)) else (some false)) else (some false)) else (some false)))) else (none))) = some r := by first | (rw [hy184]; with_reducible exact H) | (have H2_ := (Option.bind_some _ _).symm.trans H; rw [hy184]; with_reducible exact H2_) | (have H2_ := (Option.bind_some _ _).symm.trans H; with_reducible exact H2_) | with_reducible exact H | (rw [hy184]; exact H) | exact H
  have Ny184 := Aside0.mk hy184
  clear hy184
  obtain ⟨y187, hy187⟩ : ∃ y_ : List Int, y_ = (([0] : List Int)) := ⟨_, rfl⟩
  replace H : ((optimal_Deviation.f k 60 y184 y187).bind fun bt190 => (if 2 ≤ (y167.length : Int) then ((optimal_Stop.f k 60 0 20000 20000 0 2 false (y167.take 2) 20).bind fun bt197 => ((optimal_Stop.f k 60 0 20000 20000 0 2 false (y167.take 2) 40).bind fun bt203 => (if t171 = 0 then (if t170 = 10 then (if t173 = 0 then (if t172 = 18900 then (if t175 = 9 then (if t183 = 0 then (if t182 = 58 then (if bt190.2 = 0 then (if bt190.1 = 0 then (if bt197.2 = 0 then (if bt197.1 = 1 then (if bt203.2 = 0 then (some (bt203.1 == 0)) else (some false)) else (some false)) else (some false)) else (some false)) else (some false)) else (some false)) else (some false)) else (some false)) else (some false)) else (some false)) else (some false)) else (some false)))) else (none))) = some r := by first | (rw [hy187]; with_reducible exact H) | (have H2_ := (Option.bind_some _ _).symm.trans H; rw [hy187]; with_reducible exact H2_) | (have H2_ := (Option.bind_some _ _).symm.trans H; with_reducible exact H2_) | with_reducible exact H | (rw [hy187]; exact H) | exact H
  have Ny187 := Aside0.mk hy187
  clear hy187
  replace H := Option.bind_eq_some_iff.mp H
  obtain ⟨⟨t190, t191⟩, A60, H⟩ := H
  replace H : (if 2 ≤ (y167.length : Int) then ((optimal_Stop.f k 60 0 20000 20000 0 2 false (y167.take 2) 20).bind fun bt197 => ((optimal_Stop.f k 60 0 20000 20000 0 2 false (y167.take 2) 40).bind fun bt203 => (if t171 = 0 then (if t170 = 10 then (if t173 = 0 then (if t172 = 18900 then (if t175 = 9 then (if t183 = 0 then (if t182 = 58 then (if t191 = 0 then (if t190 = 0 then (if bt197.2 = 0 then (if bt197.1 = 1 then (if bt203.2 = 0 then (some (bt203.1 == 0)) else (some false)) else (some false)) else (some false)) else (some false)) else (some false)) else (some false)) else (some false)) else (some false)) else (some false)) else (some false)) else (some false)) else (some false)))) else (none)) = some r := H
  have A6 := Aside0.mk A60
  clear A60
  by_cases c7 : 2 ≤ (y167.length : Int)
  ·
   rw [if_pos c7] at H
   have c7b0 := eq_true c7
   have c7b1 : decide (2 ≤ (y167.length : Int)) = true := decide_eq_true c7
   clear c7
   obtain ⟨y193, hy193⟩ : ∃ y_ : List Int, y_ = (y167.take 2) := ⟨_, rfl⟩
   replace H : ((optimal_Stop.f k 60 0 20000 20000 0 2 false y193 20).bind fun bt197 => ((optimal_Stop.f k 60 0 20000 20000 0 2 false (y167.take 2) 40).bind fun bt203 => (if t171 = 0 then (if t170 = 10 then (if t173 = 0 then (if t172 = 18900 then (if t175 = 9 then (if t183 = 0 then (if t182 = 58 then (if t191 = 0 then (if t190 = 0 then (if bt197.2 = 0 then (if bt197.1 = 1 then (if bt203.2 = 0 then (some (bt203.1 == 0)) else (some false)) else (some false)) else (some false)) else (some false)) else (some false)) else (some false)) else (some false)) else (some false)) else (some false)) else (some false)) else (some false)) else (some false)))) = some r := by first | (rw [hy193]; with_reducible exact H) | (have H2_ := (Option.bind_some _ _).symm.trans H; rw [hy193]; with_reducible exact H2_) | (have H2_ := (Option.bind_some _ _).symm.trans H; with_reducible exact H2_) | with_reducible exact H | (rw [hy193]; exact H) | exact H
   have Ny193 := Aside0.mk hy193
   clear hy193
   replace H := Option.bind_eq_some_iff.mp H
   obtain ⟨⟨t197, t198⟩, A80, H⟩ := H
   replace H : ((optimal_Stop.f k 60 0 20000 20000 0 2 false (y167.take 2) 40).bind fun bt203 => (if t171 = 0 then (if t170 = 10 then (if t173 = 0 then (if t172 = 18900 then (if t175 = 9 then (if t183 = 0 then (if t182 = 58 then (if t191 = 0 then (if t190 = 0 then (if t198 = 0 then (if t197 = 1 then (if bt203.2 = 0 then (some (bt203.1 == 0)) else (some false)) else (some false)) else (some false)) else (some false)) else (some false)) else (some false)) else (some false)) else (some false)) else (some false)) else (some false)) else (some false)) else (some false))) = some r := H
   have A8 := Aside0.mk A80
   clear A80
   have c9b0 := eq_true (of_decide_eq_true (by first | (with_reducible assumption) | assumption) : 2 ≤ (y167.length : Int))
   obtain ⟨y199, hy199⟩ : ∃ y_ : List Int, y_ = (y167.take 2) := ⟨_, rfl⟩
   replace H : ((optimal_Stop.f k 60 0 20000 20000 0 2 false y199 40).bind fun bt203 => (if t171 = 0 then (if t170 = 10 then (if t173 = 0 then (if t172 = 18900 then (if t175 = 9 then (if t183 = 0 then (if t182 = 58 then (if t191 = 0 then (if t190 = 0 then (if t198 = 0 then (if t197 = 1 then (if bt203.2 = 0 then (some (bt203.1 == 0)) else (some false)) else (some false)) else (some false)) else (some false)) else (some false)) else (some false)) else (some false)) else (some false)) else (some false)) else (some false)) else (some false)) else (some false))) = some r := by first | (rw [hy199]; with_reducible exact H) | (have H2_ := (Option.bind_some _ _).symm.trans H; rw [hy199]; with_reducible exact H2_) | (have H2_ := (Option.bind_some _ _).symm.trans H; with_reducible exact H2_) | with_reducible exact H | (rw [hy199]; exact H) | exact H
   have Ny199 := Aside0.mk hy199
   clear hy199
   replace H := Option.bind_eq_some_iff.mp H
   obtain ⟨⟨t203, t204⟩, A100, H⟩ := H
   replace H : (if t171 = 0 then (if t170 = 10 then (if t173 = 0 then (if t172 = 18900 then (if t175 = 9 then (if t183 = 0 then (if t182 = 58 then (if t191 = 0 then (if t190 = 0 then (if t198 = 0 then (if t197 = 1 then (if t204 = 0 then (some (t203 == 0)) else (some false)) else (some false)) else (some false)) else (some false)) else (some false)) else (some false)) else (some false)) else (some false)) else (some false)) else (some false)) else (some false)) else (some false)) = some r := H
   have A10 := Aside0.mk A100
   clear A100
   by_cases c11 : t171 = 0
   ·
    rw [if_pos c11] at H
    have c11b0 : (t171 == 0) = true := beq_iff_eq.mpr c11
    have c11b1 : (t171 != 0) = false := bne_eq_false_iff_eq.mpr c11
    clear c11
    by_cases c12 : t170 = 10
    ·
     rw [if_pos c12] at H
     have c12b0 : (t170 == 10) = true := beq_iff_eq.mpr c12
     have c12b1 : (t170 != 10) = false := bne_eq_false_iff_eq.mpr c12
     clear c12
     by_cases c13 : t173 = 0
     ·
      rw [if_pos c13] at H
      have c13b0 : (t173 == 0) = true := beq_iff_eq.mpr c13
      have c13b1 : (t173 != 0) = false := bne_eq_false_iff_eq.mpr c13
      clear c13
      by_cases c14 : t172 = 18900
      ·
       rw [if_pos c14] at H
       have c14b0 : (t172 == 18900) = true := beq_iff_eq.mpr c14
       have c14b1 : (t172 != 18900) = false := bne_eq_false_iff_eq.mpr c14
       clear c14
       by_cases c15 : t175 = 9
       ·
        rw [if_pos c15] at H
        have c15b0 : (t175 == 9) = true := beq_iff_eq.mpr c15
        have c15b1 : (t175 != 9) = false := bne_eq_false_iff_eq.mpr c15
        clear c15
        by_cases c16 : t183 = 0
        ·
         rw [if_pos c16] at H
         have c16b0 : (t183 == 0) = true := beq_iff_eq.mpr c16
         have c16b1 : (t183 != 0) = false := bne_eq_false_iff_eq.mpr c16
         clear c16
         by_cases c17 : t182 = 58
         ·
          rw [if_pos c17] at H
          have c17b0 : (t182 == 58) = true := beq_iff_eq.mpr c17
          have c17b1 : (t182 != 58) = false := bne_eq_false_iff_eq.mpr c17
          clear c17
          by_cases c18 : t191 = 0
          ·
           rw [if_pos c18] at H
           have c18b0 : (t191 == 0) = true := beq_iff_eq.mpr c18
           have c18b1 : (t191 != 0) = false := bne_eq_false_iff_eq.mpr c18
           clear c18
           by_cases c19 : t190 = 0
           ·
            rw [if_pos c19] at H
            have c19b0 : (t190 == 0) = true := beq_iff_eq.mpr c19
            have c19b1 : (t190 != 0) = false := bne_eq_false_iff_eq.mpr c19
            clear c19
            by_cases c20 : t198 = 0
            ·
             rw [if_pos c20] at H
             have c20b0 : (t198 == 0) = true := beq_iff_eq.mpr c20
             have c20b1 : (t198 != 0) = false := bne_eq_false_iff_eq.mpr c20
             clear c20
             by_cases c21 : t197 = 1
             ·
              rw [if_pos c21] at H
              have c21b0 : (t197 == 1) = true := beq_iff_eq.mpr c21
              have c21b1 : (t197 != 1) = false := bne_eq_false_iff_eq.mpr c21
              clear c21
              by_cases c22 : t204 = 0
              ·
               rw [if_pos c22] at H
               have c22b0 : (t204 == 0) = true := beq_iff_eq.mpr c22
               have c22b1 : (t204 != 0) = false := bne_eq_false_iff_eq.mpr c22
               clear c22
               obtain rfl := Option.some.inj H
               go_enter Try.func9, Try.ntmps9
               try go_wp2_with (first | ((with_reducible refine gate_dst (N := 1) rfl ?_); refine box_event ?hg (N := 1) ?hd (cs := #[.int .i64 0, .int .i64 0]) (t := 23) ?hr ?_; (case hd => rfl); (case hg => rfl); (case hr => first | (go_simp; done) | (go_simp; rfl)); intro gb165 hg w23 hbox hb; have n0_ := Aside0.mk (below_step (by repeat (first | (with_reducible first | exact HB.out | apply below_alloc | apply pw_below_drewN | apply below_drew1) | exact HB.out)) hb); have n1_ := Aside0.mk (hbox); have n2_ := Aside0.mk ((by rw [hg]; exact (below_size (by repeat (first | (with_reducible first | exact HB.out | apply below_alloc | apply pw_below_drewN | apply below_drew1) | exact HB.out))) : w.heap.size ≤ gb165)); have n3_ := Aside0.mk ((by rw [hg]; exact (below_size (by repeat (first | (with_reducible first | exact HB.out | apply below_alloc | apply pw_below_drewN | apply below_drew1) | exact HB.out))) : w.heap.size ≤ gb165)); clear HB; have HB := n0_; have BK165 := n1_; have GW165 := n2_; have GE165 := n3_; clear n0_ n1_ n2_ n3_; clear hb hbox hg; have hcz24_0 : w23.cell? ⟨gb165, 0, none⟩ = some (.int .i64 0) := (blk_cell BK165.out 0).trans rfl; have hcz24_1 : w23.cell? ⟨gb165, 1, none⟩ = some (.int .i64 0) := (blk_cell BK165.out 1).trans rfl; have hfz24_0 := blk_frozen BK165.out 0; have hfz24_1 := blk_frozen BK165.out 1) | ((with_reducible refine gate_dst (N := 2) rfl ?_); refine box_event ?hg (N := 2) ?hd (cs := #[.int .i64 0, .int .i64 0, .int .i64 0, .int .i64 0, .bool false]) (t := 32) ?hr ?_; (case hd => rfl); (case hg => rfl); (case hr => first | (go_simp; done) | (go_simp; rfl)); intro gb166 hg w25 hbox hb; have n0_ := Aside0.mk (blk_below (g := gb165) (o := .cells #[.int .i64 0, .int .i64 6000] 23 (0, 0)) (by (with_reducible repeat (first | refine blk_drewN ?_ _ | refine blk_drew ?_ | refine blk_alloc ?_ _)); refine blk_put (cs := #[.int .i64 0, .int .i64 0]) ?_ 1 _ rfl; (with_reducible repeat (first | refine blk_drewN ?_ _ | refine blk_drew ?_ | refine blk_alloc ?_ _)); refine blk_put (cs := #[.int .i64 0, .int .i64 0]) ?_ 0 _ rfl; (with_reducible repeat (first | refine blk_drewN ?_ _ | refine blk_drew ?_ | refine blk_alloc ?_ _)); exact BK165.out) hb); have n1_ := Aside0.mk (below_step (by repeat (first | (with_reducible first | exact HB.out | apply below_alloc | apply pw_below_drewN | apply below_drew1 | refine below_set ?_ GE165.out) | exact HB.out)) hb); have n2_ := Aside0.mk (hbox); have n3_ := Aside0.mk ((by rw [hg]; exact (below_size (by repeat (first | (with_reducible first | exact HB.out | apply below_alloc | apply pw_below_drewN | apply below_drew1 | refine below_set ?_ GE165.out) | exact HB.out))) : w.heap.size ≤ gb166)); have n4_ := Aside0.mk ((by rw [hg]; exact (below_size (by repeat (first | (with_reducible first | exact HB.out | apply below_alloc | apply pw_below_drewN | apply below_drew1 | refine below_set ?_ GE165.out) | exact HB.out))) : w.heap.size ≤ gb166)); have n5_ := Aside0.mk ((by rw [hg]; exact Nat.ne_of_lt (blk_lt (g := gb165) (o := .cells #[.int .i64 0, .int .i64 6000] 23 (0, 0)) (by (with_reducible repeat (first | refine blk_drewN ?_ _ | refine blk_drew ?_ | refine blk_alloc ?_ _)); refine blk_put (cs := #[.int .i64 0, .int .i64 0]) ?_ 1 _ rfl; (with_reducible repeat (first | refine blk_drewN ?_ _ | refine blk_drew ?_ | refine blk_alloc ?_ _)); refine blk_put (cs := #[.int .i64 0, .int .i64 0]) ?_ 0 _ rfl; (with_reducible repeat (first | refine blk_drewN ?_ _ | refine blk_drew ?_ | refine blk_alloc ?_ _)); exact BK165.out)) : gb165 ≠ gb166)); have n6_ := Aside0.mk ((by rw [hg]; exact Nat.ne_of_gt (blk_lt (g := gb165) (o := .cells #[.int .i64 0, .int .i64 6000] 23 (0, 0)) (by (with_reducible repeat (first | refine blk_drewN ?_ _ | refine blk_drew ?_ | refine blk_alloc ?_ _)); refine blk_put (cs := #[.int .i64 0, .int .i64 0]) ?_ 1 _ rfl; (with_reducible repeat (first | refine blk_drewN ?_ _ | refine blk_drew ?_ | refine blk_alloc ?_ _)); refine blk_put (cs := #[.int .i64 0, .int .i64 0]) ?_ 0 _ rfl; (with_reducible repeat (first | refine blk_drewN ?_ _ | refine blk_drew ?_ | refine blk_alloc ?_ _)); exact BK165.out)) : gb166 ≠ gb165)); clear BK165; clear HB; have BK165 := n0_; have HB := n1_; have BK166 := n2_; have GW166 := n3_; have GE166 := n4_; have NB165_166 := n5_; have NB166_165 := n6_; clear n0_ n1_ n2_ n3_ n4_ n5_ n6_; clear hb hbox hg; have hnb26 := NB166_165.out; have hnc26 := NB165_166.out; have hcz27_0 : w25.cell? ⟨gb166, 0, none⟩ = some (.int .i64 0) := (blk_cell BK166.out 0).trans rfl; have hcz27_1 : w25.cell? ⟨gb166, 1, none⟩ = some (.int .i64 0) := (blk_cell BK166.out 1).trans rfl; have hcz27_2 : w25.cell? ⟨gb166, 2, none⟩ = some (.int .i64 0) := (blk_cell BK166.out 2).trans rfl; have hcz27_3 : w25.cell? ⟨gb166, 3, none⟩ = some (.int .i64 0) := (blk_cell BK166.out 3).trans rfl; have hcz27_4 : w25.cell? ⟨gb166, 4, none⟩ = some (.bool false) := (blk_cell BK166.out 4).trans rfl; have hfz27_0 := blk_frozen BK166.out 0; have hfz27_1 := blk_frozen BK166.out 1; have hfz27_2 := blk_frozen BK166.out 2; have hfz27_3 := blk_frozen BK166.out 3; have hfz27_4 := blk_frozen BK166.out 4) | ((with_reducible refine gate_dst (N := 21) rfl ?_); refine Kd.R_make (Kd.int .i64) _ 2 rfl (N := 21) rfl 26 _ _ rfl 20 rfl rfl Try.underlying26 (.int .i64 0) 8 info2 rfl (by decide) (by omega) 0 (ok := fun _ => True) (okp := fun _ => True) rfl (fun _ hk => hk) trivial (by omega) (by omega) (Below.refl _ _) (Nat.le_refl _) ?_; intro v168 w28 ho29 hb hg_ hnew_; clear hg_ hnew_; (first | rw [← Ny167.out] at ho29 | (simp only [Int.reduceToNat] at ho29; rw [← Ny167.out] at ho29)); have n0_ := Aside0.mk (Kd.R_lower ho29 (below_size (by repeat (first | (with_reducible first | exact HB.out | apply below_alloc | apply pw_below_drewN | apply below_drew1 | refine below_set ?_ GE165.out | refine below_set ?_ GE166.out) | exact HB.out)))); have n1_ := Aside0.mk (blk_below (g := gb165) (o := .cells #[.int .i64 0, .int .i64 6000] 23 (0, 0)) (by (with_reducible repeat (first | refine blk_drewN ?_ _ | refine blk_drew ?_ | refine blk_alloc ?_ _)); refine blk_far ?_ NB165_166.out _; (with_reducible repeat (first | refine blk_drewN ?_ _ | refine blk_drew ?_ | refine blk_alloc ?_ _)); refine blk_far ?_ NB165_166.out _; (with_reducible repeat (first | refine blk_drewN ?_ _ | refine blk_drew ?_ | refine blk_alloc ?_ _)); refine blk_far ?_ NB165_166.out _; (with_reducible repeat (first | refine blk_drewN ?_ _ | refine blk_drew ?_ | refine blk_alloc ?_ _)); refine blk_far ?_ NB165_166.out _; (with_reducible repeat (first | refine blk_drewN ?_ _ | refine blk_drew ?_ | refine blk_alloc ?_ _)); refine blk_far ?_ NB165_166.out _; (with_reducible repeat (first | refine blk_drewN ?_ _ | refine blk_drew ?_ | refine blk_alloc ?_ _)); exact BK165.out) hb); have n2_ := Aside0.mk (blk_below (g := gb166) (o := .cells #[.int .i64 18000, .int .i64 19000, .int .i64 0, .int .i64 20, .bool false] 32 (0, 0)) (by (with_reducible repeat (first | refine blk_drewN ?_ _ | refine blk_drew ?_ | refine blk_alloc ?_ _)); refine blk_put (cs := #[.int .i64 18000, .int .i64 19000, .int .i64 0, .int .i64 20, .bool false]) ?_ 4 _ rfl; (with_reducible repeat (first | refine blk_drewN ?_ _ | refine blk_drew ?_ | refine blk_alloc ?_ _)); refine blk_put (cs := #[.int .i64 18000, .int .i64 19000, .int .i64 0, .int .i64 0, .bool false]) ?_ 3 _ rfl; (with_reducible repeat (first | refine blk_drewN ?_ _ | refine blk_drew ?_ | refine blk_alloc ?_ _)); refine blk_put (cs := #[.int .i64 18000, .int .i64 19000, .int .i64 0, .int .i64 0, .bool false]) ?_ 2 _ rfl; (with_reducible repeat (first | refine blk_drewN ?_ _ | refine blk_drew ?_ | refine blk_alloc ?_ _)); refine blk_put (cs := #[.int .i64 18000, .int .i64 0, .int .i64 0, .int .i64 0, .bool false]) ?_ 1 _ rfl; (with_reducible repeat (first | refine blk_drewN ?_ _ | refine blk_drew ?_ | refine blk_alloc ?_ _)); refine blk_put (cs := #[.int .i64 0, .int .i64 0, .int .i64 0, .int .i64 0, .bool false]) ?_ 0 _ rfl; (with_reducible repeat (first | refine blk_drewN ?_ _ | refine blk_drew ?_ | refine blk_alloc ?_ _)); exact BK166.out) hb); have n3_ := Aside0.mk (below_step (by repeat (first | (with_reducible first | exact HB.out | apply below_alloc | apply pw_below_drewN | apply below_drew1 | refine below_set ?_ GE165.out | refine below_set ?_ GE166.out) | exact HB.out)) hb); clear BK165; clear BK166; clear HB; have HO169 := n0_; have BK165 := n1_; have BK166 := n2_; have HB := n3_; clear n0_ n1_ n2_ n3_; clear hb ho29; have hcz30_0 : w28.cell? ⟨gb165, 0, none⟩ = some (.int .i64 0) := (blk_cell BK165.out 0).trans rfl; have hcz30_1 : w28.cell? ⟨gb165, 1, none⟩ = some (.int .i64 6000) := (blk_cell BK165.out 1).trans rfl; have hfz30_0 := blk_frozen BK165.out 0; have hfz30_1 := blk_frozen BK165.out 1; have hcz31_0 : w28.cell? ⟨gb166, 0, none⟩ = some (.int .i64 18000) := (blk_cell BK166.out 0).trans rfl; have hcz31_1 : w28.cell? ⟨gb166, 1, none⟩ = some (.int .i64 19000) := (blk_cell BK166.out 1).trans rfl; have hcz31_2 : w28.cell? ⟨gb166, 2, none⟩ = some (.int .i64 0) := (blk_cell BK166.out 2).trans rfl; have hcz31_3 : w28.cell? ⟨gb166, 3, none⟩ = some (.int .i64 20) := (blk_cell BK166.out 3).trans rfl; have hcz31_4 : w28.cell? ⟨gb166, 4, none⟩ = some (.bool false) := (blk_cell BK166.out 4).trans rfl; have hfz31_0 := blk_frozen BK166.out 0; have hfz31_1 := blk_frozen BK166.out 1; have hfz31_2 := blk_frozen BK166.out 2; have hfz31_3 := blk_frozen BK166.out 3; have hfz31_4 := blk_frozen BK166.out 4; obtain ⟨Ao32, co32, eo32⟩ := Kd.R_slice HO169.out; subst eo32) | ((with_reducible refine gate_callee (f := 10) rfl ?_); refine goesL_ (some 26) rfl rfl Try.func10 (by kernel_rfl) rfl #[.agg #[.int .i64 0, .int .i64 6000], .agg #[.int .i64 18000, .int .i64 19000, .int .i64 0, .int .i64 20, .bool false], .slice Ao32 y167.length co32] rfl (by (try simp only [List.map_toArray, List.map_cons, List.map_nil]); first | done | rfl | (simp only [List.length_drop, List.length_take]; rfl) | (simp [go_sem]; rw [KY60.out, KY63.out])) ?_; (with_reducible refine (optimal_Start.calls k 0 6000 18000 19000 0 20 false _ _ y167 t170 t171 _ ?side1 ?side2 A2.out).mono ?_); (case side1 => repeat (first | exact (Kd.R_reads' HO169.out).2.2 | (with_reducible refine Kd.C_alloc ?_ _) | (with_reducible refine Kd.C_drewN ?_ _) | (with_reducible refine Kd.C_drew ?_))); (case side2 => exact (Kd.R_reads' HO169.out).2.1); rintro e w33 ⟨rfl, hb⟩; refine ⟨_, rfl, ?_⟩; have n0_ := Aside0.mk (Kd.R_below (by (with_reducible repeat (first | apply Kd.R_alloc | apply Kd.R_drewN | apply Kd.R_drew)); exact HO169.out) hb); have n1_ := Aside0.mk (blk_below (g := gb165) (o := .cells #[.int .i64 0, .int .i64 6000] 23 (0, 0)) (by (with_reducible repeat (first | refine blk_drewN ?_ _ | refine blk_drew ?_ | refine blk_alloc ?_ _)); exact BK165.out) hb); have n2_ := Aside0.mk (blk_below (g := gb166) (o := .cells #[.int .i64 18000, .int .i64 19000, .int .i64 0, .int .i64 20, .bool false] 32 (0, 0)) (by (with_reducible repeat (first | refine blk_drewN ?_ _ | refine blk_drew ?_ | refine blk_alloc ?_ _)); exact BK166.out) hb); have n3_ := Aside0.mk (below_step (by repeat (first | (with_reducible first | exact HB.out | apply below_alloc | apply pw_below_drewN | apply below_drew1 | refine below_set ?_ GE165.out | refine below_set ?_ GE166.out) | exact HB.out)) hb); clear HO169; clear BK165; clear BK166; clear HB; have HO169 := n0_; have BK165 := n1_; have BK166 := n2_; have HB := n3_; clear n0_ n1_ n2_ n3_; (try clear hb); (try clear hb2); (try clear hk); (try clear hi); have hcz34_0 : w33.cell? ⟨gb165, 0, none⟩ = some (.int .i64 0) := (blk_cell BK165.out 0).trans rfl; have hcz34_1 : w33.cell? ⟨gb165, 1, none⟩ = some (.int .i64 6000) := (blk_cell BK165.out 1).trans rfl; have hfz34_0 := blk_frozen BK165.out 0; have hfz34_1 := blk_frozen BK165.out 1; have hcz35_0 : w33.cell? ⟨gb166, 0, none⟩ = some (.int .i64 18000) := (blk_cell BK166.out 0).trans rfl; have hcz35_1 : w33.cell? ⟨gb166, 1, none⟩ = some (.int .i64 19000) := (blk_cell BK166.out 1).trans rfl; have hcz35_2 : w33.cell? ⟨gb166, 2, none⟩ = some (.int .i64 0) := (blk_cell BK166.out 2).trans rfl; have hcz35_3 : w33.cell? ⟨gb166, 3, none⟩ = some (.int .i64 20) := (blk_cell BK166.out 3).trans rfl; have hcz35_4 : w33.cell? ⟨gb166, 4, none⟩ = some (.bool false) := (blk_cell BK166.out 4).trans rfl; have hfz35_0 := blk_frozen BK166.out 0; have hfz35_1 := blk_frozen BK166.out 1; have hfz35_2 := blk_frozen BK166.out 2; have hfz35_3 := blk_frozen BK166.out 3; have hfz35_4 := blk_frozen BK166.out 4) | ((with_reducible refine gate_callee (f := 11) rfl ?_); refine goesL_ (some 33) rfl rfl Try.func11 (by kernel_rfl) rfl #[.agg #[.int .i64 0, .int .i64 6000], .agg #[.int .i64 18000, .int .i64 19000, .int .i64 0, .int .i64 20, .bool false], .slice Ao32 y167.length co32, .int .i64 11] rfl (by (try simp only [List.map_toArray, List.map_cons, List.map_nil]); first | done | rfl | (simp only [List.length_drop, List.length_take]; rfl) | (simp [go_sem]; rw [KY60.out, KY63.out])) ?_; (with_reducible refine (optimal_Reach.calls k 0 6000 18000 19000 0 20 false _ _ y167 11 t172 t173 _ ?side1 ?side2 A3.out).mono ?_); (case side1 => repeat (first | exact (Kd.R_reads' HO169.out).2.2 | (with_reducible refine Kd.C_alloc ?_ _) | (with_reducible refine Kd.C_drewN ?_ _) | (with_reducible refine Kd.C_drew ?_))); (case side2 => exact (Kd.R_reads' HO169.out).2.1); rintro e w36 ⟨rfl, hb⟩; refine ⟨_, rfl, ?_⟩; have n0_ := Aside0.mk (Kd.R_below (by (with_reducible repeat (first | apply Kd.R_alloc | apply Kd.R_drewN | apply Kd.R_drew)); exact HO169.out) hb); have n1_ := Aside0.mk (blk_below (g := gb165) (o := .cells #[.int .i64 0, .int .i64 6000] 23 (0, 0)) (by (with_reducible repeat (first | refine blk_drewN ?_ _ | refine blk_drew ?_ | refine blk_alloc ?_ _)); exact BK165.out) hb); have n2_ := Aside0.mk (blk_below (g := gb166) (o := .cells #[.int .i64 18000, .int .i64 19000, .int .i64 0, .int .i64 20, .bool false] 32 (0, 0)) (by (with_reducible repeat (first | refine blk_drewN ?_ _ | refine blk_drew ?_ | refine blk_alloc ?_ _)); exact BK166.out) hb); have n3_ := Aside0.mk (below_step (by repeat (first | (with_reducible first | exact HB.out | apply below_alloc | apply pw_below_drewN | apply below_drew1 | refine below_set ?_ GE165.out | refine below_set ?_ GE166.out) | exact HB.out)) hb); clear HO169; clear BK165; clear BK166; clear HB; have HO169 := n0_; have BK165 := n1_; have BK166 := n2_; have HB := n3_; clear n0_ n1_ n2_ n3_; (try clear hb); (try clear hb2); (try clear hk); (try clear hi); have hcz37_0 : w36.cell? ⟨gb166, 0, none⟩ = some (.int .i64 18000) := (blk_cell BK166.out 0).trans rfl; have hcz37_1 : w36.cell? ⟨gb166, 1, none⟩ = some (.int .i64 19000) := (blk_cell BK166.out 1).trans rfl; have hcz37_2 : w36.cell? ⟨gb166, 2, none⟩ = some (.int .i64 0) := (blk_cell BK166.out 2).trans rfl; have hcz37_3 : w36.cell? ⟨gb166, 3, none⟩ = some (.int .i64 20) := (blk_cell BK166.out 3).trans rfl; have hcz37_4 : w36.cell? ⟨gb166, 4, none⟩ = some (.bool false) := (blk_cell BK166.out 4).trans rfl; have hfz37_0 := blk_frozen BK166.out 0; have hfz37_1 := blk_frozen BK166.out 1; have hfz37_2 := blk_frozen BK166.out 2; have hfz37_3 := blk_frozen BK166.out 3; have hfz37_4 := blk_frozen BK166.out 4; have hcz38_0 : w36.cell? ⟨gb165, 0, none⟩ = some (.int .i64 0) := (blk_cell BK165.out 0).trans rfl; have hcz38_1 : w36.cell? ⟨gb165, 1, none⟩ = some (.int .i64 6000) := (blk_cell BK165.out 1).trans rfl; have hfz38_0 := blk_frozen BK165.out 0; have hfz38_1 := blk_frozen BK165.out 1) | ((with_reducible refine gate_callee (f := 10) rfl ?_); refine goesL_ (some 41) rfl rfl Try.func10 (by kernel_rfl) rfl #[.agg #[.int .i64 0, .int .i64 6000], .agg #[.int .i64 18000, .int .i64 20001, .int .i64 0, .int .i64 20, .bool false], .slice Ao32 y167.length co32] rfl (by (try simp only [List.map_toArray, List.map_cons, List.map_nil]); first | done | rfl | (simp only [List.length_drop, List.length_take]; rfl) | (simp [go_sem]; rw [KY60.out, KY63.out])) ?_; (with_reducible refine (optimal_Start.calls k 0 6000 18000 20001 0 20 false _ _ y167 t174 t175 _ ?side1 ?side2 A4.out).mono ?_); (case side1 => refine (Kd.R_reads' (e := 2) (base := w.heap.size) (ok := fun k_ => True) (n := y167.length) (c := co32) ?_).2.2; exact (by (with_reducible repeat (first | apply Kd.R_alloc | apply Kd.R_drewN | apply Kd.R_drew)); exact (Kd.R_mono (Kd.R_far (p := ⟨gb166, 1, none⟩) (Kd.R_types HO169.out BK166.out (by decide)) (fun _ hk => hk.2) (.int .i64 20001)) (fun _ h_ => h_.1)))); (case side2 => exact (Kd.R_reads' HO169.out).2.1); rintro e w39 ⟨rfl, hb⟩; refine ⟨_, rfl, ?_⟩; have n0_ := Aside0.mk (Kd.R_below (by (with_reducible repeat (first | apply Kd.R_alloc | apply Kd.R_drewN | apply Kd.R_drew)); exact (Kd.R_mono (Kd.R_far (p := ⟨gb166, 1, none⟩) (Kd.R_types HO169.out BK166.out (by decide)) (fun _ hk => hk.2) (.int .i64 20001)) (fun _ h_ => h_.1))) hb); have n1_ := Aside0.mk (blk_below (g := gb165) (o := .cells #[.int .i64 0, .int .i64 6000] 23 (0, 0)) (by (with_reducible repeat (first | refine blk_drewN ?_ _ | refine blk_drew ?_ | refine blk_alloc ?_ _)); refine blk_far ?_ NB165_166.out _; (with_reducible repeat (first | refine blk_drewN ?_ _ | refine blk_drew ?_ | refine blk_alloc ?_ _)); exact BK165.out) hb); have n2_ := Aside0.mk (blk_below (g := gb166) (o := .cells #[.int .i64 18000, .int .i64 20001, .int .i64 0, .int .i64 20, .bool false] 32 (0, 0)) (by (with_reducible repeat (first | refine blk_drewN ?_ _ | refine blk_drew ?_ | refine blk_alloc ?_ _)); refine blk_put (cs := #[.int .i64 18000, .int .i64 19000, .int .i64 0, .int .i64 20, .bool false]) ?_ 1 _ rfl; (with_reducible repeat (first | refine blk_drewN ?_ _ | refine blk_drew ?_ | refine blk_alloc ?_ _)); exact BK166.out) hb); have n3_ := Aside0.mk (below_step (by repeat (first | (with_reducible first | exact HB.out | apply below_alloc | apply pw_below_drewN | apply below_drew1 | refine below_set ?_ GE165.out | refine below_set ?_ GE166.out) | exact HB.out)) hb); clear HO169; clear BK165; clear BK166; clear HB; have HO169 := n0_; have BK165 := n1_; have BK166 := n2_; have HB := n3_; clear n0_ n1_ n2_ n3_; (try clear hb); (try clear hb2); (try clear hk); (try clear hi)) | ((with_reducible refine gate_dst (N := 45) rfl ?_); refine Kd.R_lit (Kd.int .i64) _ 2 ?hg (N := 45) ?hd (xs := ([20000, 19980] : List Int)) (inner := [.int .i64 20000, .int .i64 19980]) (ok := fun _ => True) (okp := fun _ => True) ?hr ?hp (fun _ hk => hk) trivial (Below.refl _ _) (Nat.le_refl _) (by simp) ?_; (case hd => rfl); (case hg => rfl); (case hr => first | (go_simp; done) | (go_simp; rfl)); (case hp => exact (Reps.one (show Kd.M (Kd.int .i64) _ _ _ 20000 [.int .i64 20000] from rfl) (Reps.one (show Kd.M (Kd.int .i64) _ _ _ 19980 [.int .i64 19980] from rfl) (Reps.none _ _)))); intro v177 w40 ho41 hb hg_ hnew_; clear hg_ hnew_; (first | rw [← Ny176.out] at ho41 | (simp only [Int.reduceToNat] at ho41; rw [← Ny176.out] at ho41)); have n0_ := Aside0.mk (Kd.R_elder' (by (with_reducible repeat (first | apply Kd.R_alloc | apply Kd.R_drewN | apply Kd.R_drew)); exact HO169.out) (Kd.R_base ho41) hb); have n1_ := Aside0.mk (Kd.R_lower (Kd.R_new' ho41 (Kd.R_lt (by (with_reducible repeat (first | apply Kd.R_alloc | apply Kd.R_drewN | apply Kd.R_drew)); exact HO169.out))) (below_size (by repeat (first | (with_reducible first | exact HB.out | apply below_alloc | apply pw_below_drewN | apply below_drew1 | refine below_set ?_ GE165.out | refine below_set ?_ GE166.out) | exact HB.out)))); have n2_ := Aside0.mk (blk_below (g := gb165) (o := .cells #[.int .i64 0, .int .i64 6000] 23 (0, 0)) (by (with_reducible repeat (first | refine blk_drewN ?_ _ | refine blk_drew ?_ | refine blk_alloc ?_ _)); exact BK165.out) hb); have n3_ := Aside0.mk (blk_below (g := gb166) (o := .cells #[.int .i64 18000, .int .i64 20001, .int .i64 0, .int .i64 20, .bool false] 32 (0, 0)) (by (with_reducible repeat (first | refine blk_drewN ?_ _ | refine blk_drew ?_ | refine blk_alloc ?_ _)); exact BK166.out) hb); have n4_ := Aside0.mk (below_step (by repeat (first | (with_reducible first | exact HB.out | apply below_alloc | apply pw_below_drewN | apply below_drew1 | refine below_set ?_ GE165.out | refine below_set ?_ GE166.out) | exact HB.out)) hb); clear HO169; clear BK165; clear BK166; clear HB; have HO169 := n0_; have HO178 := n1_; have BK165 := n2_; have BK166 := n3_; have HB := n4_; clear n0_ n1_ n2_ n3_ n4_; clear hb ho41) | ((with_reducible refine gate_dst (N := 46) rfl ?_); refine Kd.R_lit (Kd.int .i64) _ 2 ?hg (N := 46) ?hd (xs := ([0] : List Int)) (inner := [.int .i64 0]) (ok := fun _ => True) (okp := fun _ => True) ?hr ?hp (fun _ hk => hk) trivial (Below.refl _ _) (Nat.le_refl _) (by simp) ?_; (case hd => rfl); (case hg => rfl); (case hr => first | (go_simp; done) | (go_simp; rfl)); (case hp => exact (Reps.one (show Kd.M (Kd.int .i64) _ _ _ 0 [.int .i64 0] from rfl) (Reps.none _ _))); intro v180 w42 ho43 hb hg_ hnew_; clear hg_ hnew_; (first | rw [← Ny179.out] at ho43 | (simp only [Int.reduceToNat] at ho43; rw [← Ny179.out] at ho43)); have n0_ := Aside0.mk (Kd.R_elder' (by (with_reducible repeat (first | apply Kd.R_alloc | apply Kd.R_drewN | apply Kd.R_drew)); exact HO169.out) (Kd.R_base ho43) hb); have n1_ := Aside0.mk (Kd.R_elder' (by (with_reducible repeat (first | apply Kd.R_alloc | apply Kd.R_drewN | apply Kd.R_drew)); exact HO178.out) (Kd.R_base ho43) hb); have n2_ := Aside0.mk (Kd.R_lower (Kd.R_new' (Kd.R_new' ho43 (Kd.R_lt (by (with_reducible repeat (first | apply Kd.R_alloc | apply Kd.R_drewN | apply Kd.R_drew)); exact HO169.out))) (Kd.R_lt (by (with_reducible repeat (first | apply Kd.R_alloc | apply Kd.R_drewN | apply Kd.R_drew)); exact HO178.out))) (below_size (by repeat (first | (with_reducible first | exact HB.out | apply below_alloc | apply pw_below_drewN | apply below_drew1 | refine below_set ?_ GE165.out | refine below_set ?_ GE166.out) | exact HB.out)))); have n3_ := Aside0.mk (blk_below (g := gb165) (o := .cells #[.int .i64 0, .int .i64 6000] 23 (0, 0)) (by (with_reducible repeat (first | refine blk_drewN ?_ _ | refine blk_drew ?_ | refine blk_alloc ?_ _)); exact BK165.out) hb); have n4_ := Aside0.mk (blk_below (g := gb166) (o := .cells #[.int .i64 18000, .int .i64 20001, .int .i64 0, .int .i64 20, .bool false] 32 (0, 0)) (by (with_reducible repeat (first | refine blk_drewN ?_ _ | refine blk_drew ?_ | refine blk_alloc ?_ _)); exact BK166.out) hb); have n5_ := Aside0.mk (below_step (by repeat (first | (with_reducible first | exact HB.out | apply below_alloc | apply pw_below_drewN | apply below_drew1 | refine below_set ?_ GE165.out | refine below_set ?_ GE166.out) | exact HB.out)) hb); clear HO169; clear HO178; clear BK165; clear BK166; clear HB; have HO169 := n0_; have HO178 := n1_; have HO181 := n2_; have BK165 := n3_; have BK166 := n4_; have HB := n5_; clear n0_ n1_ n2_ n3_ n4_ n5_; clear hb ho43; obtain ⟨Ao44, co44, eo44⟩ := Kd.R_slice HO178.out; subst eo44; obtain ⟨Ao45, co45, eo45⟩ := Kd.R_slice HO181.out; subst eo45) | ((with_reducible refine gate_callee (f := 14) rfl ?_); refine goesL_ (some 47) rfl rfl Try.func14 (by kernel_rfl) rfl #[.slice Ao44 y176.length co44, .slice Ao45 y179.length co45] rfl (by (try simp only [List.map_toArray, List.map_cons, List.map_nil]); first | done | rfl | (simp only [List.length_drop, List.length_take]; rfl) | (simp [go_sem]; rw [KY60.out, KY63.out])) ?_; (with_reducible refine (optimal_Learn.calls k _ _ y176 _ _ y179 t182 t183 _ ?side1 ?side2 ?side3 ?side4 A5.out).mono ?_); (case side1 => repeat (first | exact (Kd.R_reads' HO178.out).2.2 | (with_reducible refine Kd.C_alloc ?_ _) | (with_reducible refine Kd.C_drewN ?_ _) | (with_reducible refine Kd.C_drew ?_))); (case side2 => exact (Kd.R_reads' HO178.out).2.1); (case side3 => repeat (first | exact (Kd.R_reads' HO181.out).2.2 | (with_reducible refine Kd.C_alloc ?_ _) | (with_reducible refine Kd.C_drewN ?_ _) | (with_reducible refine Kd.C_drew ?_))); (case side4 => exact (Kd.R_reads' HO181.out).2.1); rintro e w46 ⟨rfl, hb⟩; refine ⟨_, rfl, ?_⟩; have n0_ := Aside0.mk (Kd.R_below (by (with_reducible repeat (first | apply Kd.R_alloc | apply Kd.R_drewN | apply Kd.R_drew)); exact HO169.out) hb); have n1_ := Aside0.mk (Kd.R_below (by (with_reducible repeat (first | apply Kd.R_alloc | apply Kd.R_drewN | apply Kd.R_drew)); exact HO178.out) hb); have n2_ := Aside0.mk (Kd.R_below (by (with_reducible repeat (first | apply Kd.R_alloc | apply Kd.R_drewN | apply Kd.R_drew)); exact HO181.out) hb); have n3_ := Aside0.mk (blk_below (g := gb165) (o := .cells #[.int .i64 0, .int .i64 6000] 23 (0, 0)) (by (with_reducible repeat (first | refine blk_drewN ?_ _ | refine blk_drew ?_ | refine blk_alloc ?_ _)); exact BK165.out) hb); have n4_ := Aside0.mk (blk_below (g := gb166) (o := .cells #[.int .i64 18000, .int .i64 20001, .int .i64 0, .int .i64 20, .bool false] 32 (0, 0)) (by (with_reducible repeat (first | refine blk_drewN ?_ _ | refine blk_drew ?_ | refine blk_alloc ?_ _)); exact BK166.out) hb); have n5_ := Aside0.mk (below_step (by repeat (first | (with_reducible first | exact HB.out | apply below_alloc | apply pw_below_drewN | apply below_drew1 | refine below_set ?_ GE165.out | refine below_set ?_ GE166.out) | exact HB.out)) hb); clear HO169; clear HO178; clear HO181; clear BK165; clear BK166; clear HB; have HO169 := n0_; have HO178 := n1_; have HO181 := n2_; have BK165 := n3_; have BK166 := n4_; have HB := n5_; clear n0_ n1_ n2_ n3_ n4_ n5_; (try clear hb); (try clear hb2); (try clear hk); (try clear hi)) | ((with_reducible refine gate_dst (N := 51) rfl ?_); refine Kd.R_lit (Kd.int .i64) _ 2 ?hg (N := 51) ?hd (xs := ([20000, 19980] : List Int)) (inner := [.int .i64 20000, .int .i64 19980]) (ok := fun _ => True) (okp := fun _ => True) ?hr ?hp (fun _ hk => hk) trivial (Below.refl _ _) (Nat.le_refl _) (by simp) ?_; (case hd => rfl); (case hg => rfl); (case hr => first | (go_simp; done) | (go_simp; rfl)); (case hp => exact (Reps.one (show Kd.M (Kd.int .i64) _ _ _ 20000 [.int .i64 20000] from rfl) (Reps.one (show Kd.M (Kd.int .i64) _ _ _ 19980 [.int .i64 19980] from rfl) (Reps.none _ _)))); intro v185 w47 ho48 hb hg_ hnew_; clear hg_ hnew_; (first | rw [← Ny184.out] at ho48 | (simp only [Int.reduceToNat] at ho48; rw [← Ny184.out] at ho48)); have n0_ := Aside0.mk (Kd.R_elder' (by (with_reducible repeat (first | apply Kd.R_alloc | apply Kd.R_drewN | apply Kd.R_drew)); exact HO169.out) (Kd.R_base ho48) hb); have n1_ := Aside0.mk (Kd.R_elder' (by (with_reducible repeat (first | apply Kd.R_alloc | apply Kd.R_drewN | apply Kd.R_drew)); exact HO178.out) (Kd.R_base ho48) hb); have n2_ := Aside0.mk (Kd.R_elder' (by (with_reducible repeat (first | apply Kd.R_alloc | apply Kd.R_drewN | apply Kd.R_drew)); exact HO181.out) (Kd.R_base ho48) hb); have n3_ := Aside0.mk (Kd.R_lower (Kd.R_new' (Kd.R_new' (Kd.R_new' ho48 (Kd.R_lt (by (with_reducible repeat (first | apply Kd.R_alloc | apply Kd.R_drewN | apply Kd.R_drew)); exact HO169.out))) (Kd.R_lt (by (with_reducible repeat (first | apply Kd.R_alloc | apply Kd.R_drewN | apply Kd.R_drew)); exact HO178.out))) (Kd.R_lt (by (with_reducible repeat (first | apply Kd.R_alloc | apply Kd.R_drewN | apply Kd.R_drew)); exact HO181.out))) (below_size (by repeat (first | (with_reducible first | exact HB.out | apply below_alloc | apply pw_below_drewN | apply below_drew1 | refine below_set ?_ GE165.out | refine below_set ?_ GE166.out) | exact HB.out)))); have n4_ := Aside0.mk (blk_below (g := gb165) (o := .cells #[.int .i64 0, .int .i64 6000] 23 (0, 0)) (by (with_reducible repeat (first | refine blk_drewN ?_ _ | refine blk_drew ?_ | refine blk_alloc ?_ _)); exact BK165.out) hb); have n5_ := Aside0.mk (blk_below (g := gb166) (o := .cells #[.int .i64 18000, .int .i64 20001, .int .i64 0, .int .i64 20, .bool false] 32 (0, 0)) (by (with_reducible repeat (first | refine blk_drewN ?_ _ | refine blk_drew ?_ | refine blk_alloc ?_ _)); exact BK166.out) hb); have n6_ := Aside0.mk (below_step (by repeat (first | (with_reducible first | exact HB.out | apply below_alloc | apply pw_below_drewN | apply below_drew1 | refine below_set ?_ GE165.out | refine below_set ?_ GE166.out) | exact HB.out)) hb); clear HO169; clear HO178; clear HO181; clear BK165; clear BK166; clear HB; have HO169 := n0_; have HO178 := n1_; have HO181 := n2_; have HO186 := n3_; have BK165 := n4_; have BK166 := n5_; have HB := n6_; clear n0_ n1_ n2_ n3_ n4_ n5_ n6_; clear hb ho48) | ((with_reducible refine gate_dst (N := 52) rfl ?_); refine Kd.R_lit (Kd.int .i64) _ 2 ?hg (N := 52) ?hd (xs := ([0] : List Int)) (inner := [.int .i64 0]) (ok := fun _ => True) (okp := fun _ => True) ?hr ?hp (fun _ hk => hk) trivial (Below.refl _ _) (Nat.le_refl _) (by simp) ?_; (case hd => rfl); (case hg => rfl); (case hr => first | (go_simp; done) | (go_simp; rfl)); (case hp => exact (Reps.one (show Kd.M (Kd.int .i64) _ _ _ 0 [.int .i64 0] from rfl) (Reps.none _ _))); intro v188 w49 ho50 hb hg_ hnew_; clear hg_ hnew_; (first | rw [← Ny187.out] at ho50 | (simp only [Int.reduceToNat] at ho50; rw [← Ny187.out] at ho50)); have n0_ := Aside0.mk (Kd.R_elder' (by (with_reducible repeat (first | apply Kd.R_alloc | apply Kd.R_drewN | apply Kd.R_drew)); exact HO169.out) (Kd.R_base ho50) hb); have n1_ := Aside0.mk (Kd.R_elder' (by (with_reducible repeat (first | apply Kd.R_alloc | apply Kd.R_drewN | apply Kd.R_drew)); exact HO178.out) (Kd.R_base ho50) hb); have n2_ := Aside0.mk (Kd.R_elder' (by (with_reducible repeat (first | apply Kd.R_alloc | apply Kd.R_drewN | apply Kd.R_drew)); exact HO181.out) (Kd.R_base ho50) hb); have n3_ := Aside0.mk (Kd.R_elder' (by (with_reducible repeat (first | apply Kd.R_alloc | apply Kd.R_drewN | apply Kd.R_drew)); exact HO186.out) (Kd.R_base ho50) hb); have n4_ := Aside0.mk (Kd.R_lower (Kd.R_new' (Kd.R_new' (Kd.R_new' (Kd.R_new' ho50 (Kd.R_lt (by (with_reducible repeat (first | apply Kd.R_alloc | apply Kd.R_drewN | apply Kd.R_drew)); exact HO169.out))) (Kd.R_lt (by (with_reducible repeat (first | apply Kd.R_alloc | apply Kd.R_drewN | apply Kd.R_drew)); exact HO178.out))) (Kd.R_lt (by (with_reducible repeat (first | apply Kd.R_alloc | apply Kd.R_drewN | apply Kd.R_drew)); exact HO181.out))) (Kd.R_lt (by (with_reducible repeat (first | apply Kd.R_alloc | apply Kd.R_drewN | apply Kd.R_drew)); exact HO186.out))) (below_size (by repeat (first | (with_reducible first | exact HB.out | apply below_alloc | apply pw_below_drewN | apply below_drew1 | refine below_set ?_ GE165.out | refine below_set ?_ GE166.out) | exact HB.out)))); have n5_ := Aside0.mk (blk_below (g := gb165) (o := .cells #[.int .i64 0, .int .i64 6000] 23 (0, 0)) (by (with_reducible repeat (first | refine blk_drewN ?_ _ | refine blk_drew ?_ | refine blk_alloc ?_ _)); exact BK165.out) hb); have n6_ := Aside0.mk (blk_below (g := gb166) (o := .cells #[.int .i64 18000, .int .i64 20001, .int .i64 0, .int .i64 20, .bool false] 32 (0, 0)) (by (with_reducible repeat (first | refine blk_drewN ?_ _ | refine blk_drew ?_ | refine blk_alloc ?_ _)); exact BK166.out) hb); have n7_ := Aside0.mk (below_step (by repeat (first | (with_reducible first | exact HB.out | apply below_alloc | apply pw_below_drewN | apply below_drew1 | refine below_set ?_ GE165.out | refine below_set ?_ GE166.out) | exact HB.out)) hb); clear HO169; clear HO178; clear HO181; clear HO186; clear BK165; clear BK166; clear HB; have HO169 := n0_; have HO178 := n1_; have HO181 := n2_; have HO186 := n3_; have HO189 := n4_; have BK165 := n5_; have BK166 := n6_; have HB := n7_; clear n0_ n1_ n2_ n3_ n4_ n5_ n6_ n7_; clear hb ho50; obtain ⟨Ao51, co51, eo51⟩ := Kd.R_slice HO186.out; subst eo51; obtain ⟨Ao52, co52, eo52⟩ := Kd.R_slice HO189.out; subst eo52) | ((with_reducible refine gate_callee (f := 13) rfl ?_); refine goesL_ (some 53) rfl rfl Try.func13 (by kernel_rfl) rfl #[.int .i64 60, .slice Ao51 y184.length co51, .slice Ao52 y187.length co52] rfl (by (try simp only [List.map_toArray, List.map_cons, List.map_nil]); first | done | rfl | (simp only [List.length_drop, List.length_take]; rfl) | (simp [go_sem]; rw [KY60.out, KY63.out])) ?_; (with_reducible refine (optimal_Deviation.calls k 60 _ _ y184 _ _ y187 t190 t191 _ ?side1 ?side2 ?side3 ?side4 A6.out).mono ?_); (case side1 => repeat (first | exact (Kd.R_reads' HO186.out).2.2 | (with_reducible refine Kd.C_alloc ?_ _) | (with_reducible refine Kd.C_drewN ?_ _) | (with_reducible refine Kd.C_drew ?_))); (case side2 => exact (Kd.R_reads' HO186.out).2.1); (case side3 => repeat (first | exact (Kd.R_reads' HO189.out).2.2 | (with_reducible refine Kd.C_alloc ?_ _) | (with_reducible refine Kd.C_drewN ?_ _) | (with_reducible refine Kd.C_drew ?_))); (case side4 => exact (Kd.R_reads' HO189.out).2.1); rintro e w53 ⟨rfl, hb⟩; refine ⟨_, rfl, ?_⟩; have n0_ := Aside0.mk (Kd.R_below (by (with_reducible repeat (first | apply Kd.R_alloc | apply Kd.R_drewN | apply Kd.R_drew)); exact HO169.out) hb); have n1_ := Aside0.mk (Kd.R_below (by (with_reducible repeat (first | apply Kd.R_alloc | apply Kd.R_drewN | apply Kd.R_drew)); exact HO178.out) hb); have n2_ := Aside0.mk (Kd.R_below (by (with_reducible repeat (first | apply Kd.R_alloc | apply Kd.R_drewN | apply Kd.R_drew)); exact HO181.out) hb); have n3_ := Aside0.mk (Kd.R_below (by (with_reducible repeat (first | apply Kd.R_alloc | apply Kd.R_drewN | apply Kd.R_drew)); exact HO186.out) hb); have n4_ := Aside0.mk (Kd.R_below (by (with_reducible repeat (first | apply Kd.R_alloc | apply Kd.R_drewN | apply Kd.R_drew)); exact HO189.out) hb); have n5_ := Aside0.mk (blk_below (g := gb165) (o := .cells #[.int .i64 0, .int .i64 6000] 23 (0, 0)) (by (with_reducible repeat (first | refine blk_drewN ?_ _ | refine blk_drew ?_ | refine blk_alloc ?_ _)); exact BK165.out) hb); have n6_ := Aside0.mk (blk_below (g := gb166) (o := .cells #[.int .i64 18000, .int .i64 20001, .int .i64 0, .int .i64 20, .bool false] 32 (0, 0)) (by (with_reducible repeat (first | refine blk_drewN ?_ _ | refine blk_drew ?_ | refine blk_alloc ?_ _)); exact BK166.out) hb); have n7_ := Aside0.mk (below_step (by repeat (first | (with_reducible first | exact HB.out | apply below_alloc | apply pw_below_drewN | apply below_drew1 | refine below_set ?_ GE165.out | refine below_set ?_ GE166.out) | exact HB.out)) hb); clear HO169; clear HO178; clear HO181; clear HO186; clear HO189; clear BK165; clear BK166; clear HB; have HO169 := n0_; have HO178 := n1_; have HO181 := n2_; have HO186 := n3_; have HO189 := n4_; have BK165 := n5_; have BK166 := n6_; have HB := n7_; clear n0_ n1_ n2_ n3_ n4_ n5_ n6_ n7_; (try clear hb); (try clear hb2); (try clear hk); (try clear hi)) | ((with_reducible refine gate_dst (N := 14) rfl ?_); refine box_event ?hg (N := 14) ?hd (cs := #[.int .i64 0, .int .i64 0, .int .i64 0, .int .i64 0, .bool false]) (t := 32) ?hr ?_; (case hd => rfl); (case hg => rfl); (case hr => first | (go_simp; done) | (go_simp; rfl)); intro gb192 hg w54 hbox hb; have n0_ := Aside0.mk (Kd.R_below (by (with_reducible repeat (first | apply Kd.R_alloc | apply Kd.R_drewN | apply Kd.R_drew)); exact HO169.out) hb); have n1_ := Aside0.mk (Kd.R_below (by (with_reducible repeat (first | apply Kd.R_alloc | apply Kd.R_drewN | apply Kd.R_drew)); exact HO178.out) hb); have n2_ := Aside0.mk (Kd.R_below (by (with_reducible repeat (first | apply Kd.R_alloc | apply Kd.R_drewN | apply Kd.R_drew)); exact HO181.out) hb); have n3_ := Aside0.mk (Kd.R_below (by (with_reducible repeat (first | apply Kd.R_alloc | apply Kd.R_drewN | apply Kd.R_drew)); exact HO186.out) hb); have n4_ := Aside0.mk (Kd.R_below (by (with_reducible repeat (first | apply Kd.R_alloc | apply Kd.R_drewN | apply Kd.R_drew)); exact HO189.out) hb); have n5_ := Aside0.mk (blk_below (g := gb165) (o := .cells #[.int .i64 0, .int .i64 6000] 23 (0, 0)) (by (with_reducible repeat (first | refine blk_drewN ?_ _ | refine blk_drew ?_ | refine blk_alloc ?_ _)); exact BK165.out) hb); have n6_ := Aside0.mk (blk_below (g := gb166) (o := .cells #[.int .i64 18000, .int .i64 20001, .int .i64 0, .int .i64 20, .bool false] 32 (0, 0)) (by (with_reducible repeat (first | refine blk_drewN ?_ _ | refine blk_drew ?_ | refine blk_alloc ?_ _)); exact BK166.out) hb); have n7_ := Aside0.mk (below_step (by repeat (first | (with_reducible first | exact HB.out | apply below_alloc | apply pw_below_drewN | apply below_drew1 | refine below_set ?_ GE165.out | refine below_set ?_ GE166.out) | exact HB.out)) hb); have n8_ := Aside0.mk (hbox); have n9_ := Aside0.mk ((by rw [hg]; exact (below_size (by repeat (first | (with_reducible first | exact HB.out | apply below_alloc | apply pw_below_drewN | apply below_drew1 | refine below_set ?_ GE165.out | refine below_set ?_ GE166.out) | exact HB.out))) : w.heap.size ≤ gb192)); have n10_ := Aside0.mk ((by rw [hg]; exact (below_size (by repeat (first | (with_reducible first | exact HB.out | apply below_alloc | apply pw_below_drewN | apply below_drew1 | refine below_set ?_ GE165.out | refine below_set ?_ GE166.out) | exact HB.out))) : w.heap.size ≤ gb192)); have n11_ := Aside0.mk ((by rw [hg]; exact Nat.ne_of_lt (blk_lt (g := gb165) (o := .cells #[.int .i64 0, .int .i64 6000] 23 (0, 0)) (by (with_reducible repeat (first | refine blk_drewN ?_ _ | refine blk_drew ?_ | refine blk_alloc ?_ _)); exact BK165.out)) : gb165 ≠ gb192)); have n12_ := Aside0.mk ((by rw [hg]; exact Nat.ne_of_gt (blk_lt (g := gb165) (o := .cells #[.int .i64 0, .int .i64 6000] 23 (0, 0)) (by (with_reducible repeat (first | refine blk_drewN ?_ _ | refine blk_drew ?_ | refine blk_alloc ?_ _)); exact BK165.out)) : gb192 ≠ gb165)); have n13_ := Aside0.mk ((by rw [hg]; exact Nat.ne_of_lt (blk_lt (g := gb166) (o := .cells #[.int .i64 18000, .int .i64 20001, .int .i64 0, .int .i64 20, .bool false] 32 (0, 0)) (by (with_reducible repeat (first | refine blk_drewN ?_ _ | refine blk_drew ?_ | refine blk_alloc ?_ _)); exact BK166.out)) : gb166 ≠ gb192)); have n14_ := Aside0.mk ((by rw [hg]; exact Nat.ne_of_gt (blk_lt (g := gb166) (o := .cells #[.int .i64 18000, .int .i64 20001, .int .i64 0, .int .i64 20, .bool false] 32 (0, 0)) (by (with_reducible repeat (first | refine blk_drewN ?_ _ | refine blk_drew ?_ | refine blk_alloc ?_ _)); exact BK166.out)) : gb192 ≠ gb166)); clear HO169; clear HO178; clear HO181; clear HO186; clear HO189; clear BK165; clear BK166; clear HB; have HO169 := n0_; have HO178 := n1_; have HO181 := n2_; have HO186 := n3_; have HO189 := n4_; have BK165 := n5_; have BK166 := n6_; have HB := n7_; have BK192 := n8_; have GW192 := n9_; have GE192 := n10_; have NB165_192 := n11_; have NB192_165 := n12_; have NB166_192 := n13_; have NB192_166 := n14_; clear n0_ n1_ n2_ n3_ n4_ n5_ n6_ n7_ n8_ n9_ n10_ n11_ n12_ n13_ n14_; clear hb hbox hg; have hnb55 := NB192_165.out; have hnc55 := NB165_192.out; have hnb56 := NB192_166.out; have hnc56 := NB166_192.out; have hcz57_0 : w54.cell? ⟨gb192, 0, none⟩ = some (.int .i64 0) := (blk_cell BK192.out 0).trans rfl; have hcz57_1 : w54.cell? ⟨gb192, 1, none⟩ = some (.int .i64 0) := (blk_cell BK192.out 1).trans rfl; have hcz57_2 : w54.cell? ⟨gb192, 2, none⟩ = some (.int .i64 0) := (blk_cell BK192.out 2).trans rfl; have hcz57_3 : w54.cell? ⟨gb192, 3, none⟩ = some (.int .i64 0) := (blk_cell BK192.out 3).trans rfl; have hcz57_4 : w54.cell? ⟨gb192, 4, none⟩ = some (.bool false) := (blk_cell BK192.out 4).trans rfl; have hfz57_0 := blk_frozen BK192.out 0; have hfz57_1 := blk_frozen BK192.out 1; have hfz57_2 := blk_frozen BK192.out 2; have hfz57_3 := blk_frozen BK192.out 3; have hfz57_4 := blk_frozen BK192.out 4))
               have n0_ : Aside0 (Kd.R (Kd.int .i64) 2 (((((w54.setCell ⟨gb192, 0, none⟩ (.int .i64 20000)).setCell ⟨gb192, 1, none⟩ (.int .i64 20000)).setCell ⟨gb192, 2, none⟩ (.int .i64 0)).setCell ⟨gb192, 3, none⟩ (.int .i64 2)).setCell ⟨gb192, 4, none⟩ (.bool false)) w.heap.size (fun k_ => some k_ ≠ (.slice Ao44 y176.length co44 : Value).ownBlock ∧ some k_ ≠ (.slice Ao45 y179.length co45 : Value).ownBlock ∧ some k_ ≠ (.slice Ao51 y184.length co51 : Value).ownBlock ∧ some k_ ≠ (.slice Ao52 y187.length co52 : Value).ownBlock) (.slice Ao32 y167.length co32) y167) := ⟨by (with_reducible repeat (first | apply Kd.R_alloc | apply Kd.R_drewN | apply Kd.R_drew)); exact Kd.R_mono (Kd.R_far (p := ⟨gb192, 4, none⟩) (Kd.R_far (p := ⟨gb192, 3, none⟩) (Kd.R_far (p := ⟨gb192, 2, none⟩) (Kd.R_far (p := ⟨gb192, 1, none⟩) (Kd.R_far (p := ⟨gb192, 0, none⟩) (Kd.R_types HO169.out BK192.out (by decide)) (fun _ hk => hk.2) (.int .i64 20000)) (fun _ hk => hk.2) (.int .i64 20000)) (fun _ hk => hk.2) (.int .i64 0)) (fun _ hk => hk.2) (.int .i64 2)) (fun _ hk => hk.2) (.bool false)) (fun _ hk => ⟨hk.1.1.1.1.2, ⟨hk.1.1.1.2, ⟨hk.1.1.2, hk.1.2⟩⟩⟩)⟩
               have n1_ : Aside0 (Kd.R (Kd.int .i64) 2 (((((w54.setCell ⟨gb192, 0, none⟩ (.int .i64 20000)).setCell ⟨gb192, 1, none⟩ (.int .i64 20000)).setCell ⟨gb192, 2, none⟩ (.int .i64 0)).setCell ⟨gb192, 3, none⟩ (.int .i64 2)).setCell ⟨gb192, 4, none⟩ (.bool false)) w.heap.size (fun k_ => some k_ ≠ (.slice Ao32 y167.length co32 : Value).ownBlock ∧ some k_ ≠ (.slice Ao45 y179.length co45 : Value).ownBlock ∧ some k_ ≠ (.slice Ao51 y184.length co51 : Value).ownBlock ∧ some k_ ≠ (.slice Ao52 y187.length co52 : Value).ownBlock) (.slice Ao44 y176.length co44) y176) := ⟨by (with_reducible repeat (first | apply Kd.R_alloc | apply Kd.R_drewN | apply Kd.R_drew)); exact Kd.R_mono (Kd.R_far (p := ⟨gb192, 4, none⟩) (Kd.R_far (p := ⟨gb192, 3, none⟩) (Kd.R_far (p := ⟨gb192, 2, none⟩) (Kd.R_far (p := ⟨gb192, 1, none⟩) (Kd.R_far (p := ⟨gb192, 0, none⟩) (Kd.R_types HO178.out BK192.out (by decide)) (fun _ hk => hk.2) (.int .i64 20000)) (fun _ hk => hk.2) (.int .i64 20000)) (fun _ hk => hk.2) (.int .i64 0)) (fun _ hk => hk.2) (.int .i64 2)) (fun _ hk => hk.2) (.bool false)) (fun _ hk => ⟨hk.1.1.1.1.2, ⟨hk.1.1.1.2, ⟨hk.1.1.2, hk.1.2⟩⟩⟩)⟩
               have n2_ : Aside0 (Kd.R (Kd.int .i64) 2 (((((w54.setCell ⟨gb192, 0, none⟩ (.int .i64 20000)).setCell ⟨gb192, 1, none⟩ (.int .i64 20000)).setCell ⟨gb192, 2, none⟩ (.int .i64 0)).setCell ⟨gb192, 3, none⟩ (.int .i64 2)).setCell ⟨gb192, 4, none⟩ (.bool false)) w.heap.size (fun k_ => some k_ ≠ (.slice Ao32 y167.length co32 : Value).ownBlock ∧ some k_ ≠ (.slice Ao44 y176.length co44 : Value).ownBlock ∧ some k_ ≠ (.slice Ao51 y184.length co51 : Value).ownBlock ∧ some k_ ≠ (.slice Ao52 y187.length co52 : Value).ownBlock) (.slice Ao45 y179.length co45) y179) := ⟨by (with_reducible repeat (first | apply Kd.R_alloc | apply Kd.R_drewN | apply Kd.R_drew)); exact Kd.R_mono (Kd.R_far (p := ⟨gb192, 4, none⟩) (Kd.R_far (p := ⟨gb192, 3, none⟩) (Kd.R_far (p := ⟨gb192, 2, none⟩) (Kd.R_far (p := ⟨gb192, 1, none⟩) (Kd.R_far (p := ⟨gb192, 0, none⟩) (Kd.R_types HO181.out BK192.out (by decide)) (fun _ hk => hk.2) (.int .i64 20000)) (fun _ hk => hk.2) (.int .i64 20000)) (fun _ hk => hk.2) (.int .i64 0)) (fun _ hk => hk.2) (.int .i64 2)) (fun _ hk => hk.2) (.bool false)) (fun _ hk => ⟨hk.1.1.1.1.2, ⟨hk.1.1.1.2, ⟨hk.1.1.2, hk.1.2⟩⟩⟩)⟩
               have n3_ : Aside0 (Kd.R (Kd.int .i64) 2 (((((w54.setCell ⟨gb192, 0, none⟩ (.int .i64 20000)).setCell ⟨gb192, 1, none⟩ (.int .i64 20000)).setCell ⟨gb192, 2, none⟩ (.int .i64 0)).setCell ⟨gb192, 3, none⟩ (.int .i64 2)).setCell ⟨gb192, 4, none⟩ (.bool false)) w.heap.size (fun k_ => some k_ ≠ (.slice Ao32 y167.length co32 : Value).ownBlock ∧ some k_ ≠ (.slice Ao44 y176.length co44 : Value).ownBlock ∧ some k_ ≠ (.slice Ao45 y179.length co45 : Value).ownBlock ∧ some k_ ≠ (.slice Ao52 y187.length co52 : Value).ownBlock) (.slice Ao51 y184.length co51) y184) := ⟨by (with_reducible repeat (first | apply Kd.R_alloc | apply Kd.R_drewN | apply Kd.R_drew)); exact Kd.R_mono (Kd.R_far (p := ⟨gb192, 4, none⟩) (Kd.R_far (p := ⟨gb192, 3, none⟩) (Kd.R_far (p := ⟨gb192, 2, none⟩) (Kd.R_far (p := ⟨gb192, 1, none⟩) (Kd.R_far (p := ⟨gb192, 0, none⟩) (Kd.R_types HO186.out BK192.out (by decide)) (fun _ hk => hk.2) (.int .i64 20000)) (fun _ hk => hk.2) (.int .i64 20000)) (fun _ hk => hk.2) (.int .i64 0)) (fun _ hk => hk.2) (.int .i64 2)) (fun _ hk => hk.2) (.bool false)) (fun _ hk => ⟨hk.1.1.1.1.2, ⟨hk.1.1.1.2, ⟨hk.1.1.2, hk.1.2⟩⟩⟩)⟩
               have n4_ : Aside0 (Kd.R (Kd.int .i64) 2 (((((w54.setCell ⟨gb192, 0, none⟩ (.int .i64 20000)).setCell ⟨gb192, 1, none⟩ (.int .i64 20000)).setCell ⟨gb192, 2, none⟩ (.int .i64 0)).setCell ⟨gb192, 3, none⟩ (.int .i64 2)).setCell ⟨gb192, 4, none⟩ (.bool false)) w.heap.size (fun k_ => some k_ ≠ (.slice Ao32 y167.length co32 : Value).ownBlock ∧ some k_ ≠ (.slice Ao44 y176.length co44 : Value).ownBlock ∧ some k_ ≠ (.slice Ao45 y179.length co45 : Value).ownBlock ∧ some k_ ≠ (.slice Ao51 y184.length co51 : Value).ownBlock) (.slice Ao52 y187.length co52) y187) := ⟨by (with_reducible repeat (first | apply Kd.R_alloc | apply Kd.R_drewN | apply Kd.R_drew)); exact Kd.R_mono (Kd.R_far (p := ⟨gb192, 4, none⟩) (Kd.R_far (p := ⟨gb192, 3, none⟩) (Kd.R_far (p := ⟨gb192, 2, none⟩) (Kd.R_far (p := ⟨gb192, 1, none⟩) (Kd.R_far (p := ⟨gb192, 0, none⟩) (Kd.R_types HO189.out BK192.out (by decide)) (fun _ hk => hk.2) (.int .i64 20000)) (fun _ hk => hk.2) (.int .i64 20000)) (fun _ hk => hk.2) (.int .i64 0)) (fun _ hk => hk.2) (.int .i64 2)) (fun _ hk => hk.2) (.bool false)) (fun _ hk => ⟨hk.1.1.1.1.2, ⟨hk.1.1.1.2, ⟨hk.1.1.2, hk.1.2⟩⟩⟩)⟩
               have n5_ : Aside0 ((((((w54.setCell ⟨gb192, 0, none⟩ (.int .i64 20000)).setCell ⟨gb192, 1, none⟩ (.int .i64 20000)).setCell ⟨gb192, 2, none⟩ (.int .i64 0)).setCell ⟨gb192, 3, none⟩ (.int .i64 2)).setCell ⟨gb192, 4, none⟩ (.bool false)).heap[gb165]? = some (.cells #[.int .i64 0, .int .i64 6000] 23 (0, 0))) := ⟨by (with_reducible repeat (first | refine blk_drewN ?_ _ | refine blk_drew ?_ | refine blk_alloc ?_ _)); refine blk_far ?_ NB165_192.out _; (with_reducible repeat (first | refine blk_drewN ?_ _ | refine blk_drew ?_ | refine blk_alloc ?_ _)); refine blk_far ?_ NB165_192.out _; (with_reducible repeat (first | refine blk_drewN ?_ _ | refine blk_drew ?_ | refine blk_alloc ?_ _)); refine blk_far ?_ NB165_192.out _; (with_reducible repeat (first | refine blk_drewN ?_ _ | refine blk_drew ?_ | refine blk_alloc ?_ _)); refine blk_far ?_ NB165_192.out _; (with_reducible repeat (first | refine blk_drewN ?_ _ | refine blk_drew ?_ | refine blk_alloc ?_ _)); refine blk_far ?_ NB165_192.out _; (with_reducible repeat (first | refine blk_drewN ?_ _ | refine blk_drew ?_ | refine blk_alloc ?_ _)); exact BK165.out⟩
               have n6_ : Aside0 ((((((w54.setCell ⟨gb192, 0, none⟩ (.int .i64 20000)).setCell ⟨gb192, 1, none⟩ (.int .i64 20000)).setCell ⟨gb192, 2, none⟩ (.int .i64 0)).setCell ⟨gb192, 3, none⟩ (.int .i64 2)).setCell ⟨gb192, 4, none⟩ (.bool false)).heap[gb166]? = some (.cells #[.int .i64 18000, .int .i64 20001, .int .i64 0, .int .i64 20, .bool false] 32 (0, 0))) := ⟨by (with_reducible repeat (first | refine blk_drewN ?_ _ | refine blk_drew ?_ | refine blk_alloc ?_ _)); refine blk_far ?_ NB166_192.out _; (with_reducible repeat (first | refine blk_drewN ?_ _ | refine blk_drew ?_ | refine blk_alloc ?_ _)); refine blk_far ?_ NB166_192.out _; (with_reducible repeat (first | refine blk_drewN ?_ _ | refine blk_drew ?_ | refine blk_alloc ?_ _)); refine blk_far ?_ NB166_192.out _; (with_reducible repeat (first | refine blk_drewN ?_ _ | refine blk_drew ?_ | refine blk_alloc ?_ _)); refine blk_far ?_ NB166_192.out _; (with_reducible repeat (first | refine blk_drewN ?_ _ | refine blk_drew ?_ | refine blk_alloc ?_ _)); refine blk_far ?_ NB166_192.out _; (with_reducible repeat (first | refine blk_drewN ?_ _ | refine blk_drew ?_ | refine blk_alloc ?_ _)); exact BK166.out⟩
               have n7_ : Aside0 ((((((w54.setCell ⟨gb192, 0, none⟩ (.int .i64 20000)).setCell ⟨gb192, 1, none⟩ (.int .i64 20000)).setCell ⟨gb192, 2, none⟩ (.int .i64 0)).setCell ⟨gb192, 3, none⟩ (.int .i64 2)).setCell ⟨gb192, 4, none⟩ (.bool false)).heap[gb192]? = some (.cells #[.int .i64 20000, .int .i64 20000, .int .i64 0, .int .i64 2, .bool false] 32 (0, 0))) := ⟨by (with_reducible repeat (first | refine blk_drewN ?_ _ | refine blk_drew ?_ | refine blk_alloc ?_ _)); refine blk_put (cs := #[.int .i64 20000, .int .i64 20000, .int .i64 0, .int .i64 2, .bool false]) ?_ 4 _ rfl; (with_reducible repeat (first | refine blk_drewN ?_ _ | refine blk_drew ?_ | refine blk_alloc ?_ _)); refine blk_put (cs := #[.int .i64 20000, .int .i64 20000, .int .i64 0, .int .i64 0, .bool false]) ?_ 3 _ rfl; (with_reducible repeat (first | refine blk_drewN ?_ _ | refine blk_drew ?_ | refine blk_alloc ?_ _)); refine blk_put (cs := #[.int .i64 20000, .int .i64 20000, .int .i64 0, .int .i64 0, .bool false]) ?_ 2 _ rfl; (with_reducible repeat (first | refine blk_drewN ?_ _ | refine blk_drew ?_ | refine blk_alloc ?_ _)); refine blk_put (cs := #[.int .i64 20000, .int .i64 0, .int .i64 0, .int .i64 0, .bool false]) ?_ 1 _ rfl; (with_reducible repeat (first | refine blk_drewN ?_ _ | refine blk_drew ?_ | refine blk_alloc ?_ _)); refine blk_put (cs := #[.int .i64 0, .int .i64 0, .int .i64 0, .int .i64 0, .bool false]) ?_ 0 _ rfl; (with_reducible repeat (first | refine blk_drewN ?_ _ | refine blk_drew ?_ | refine blk_alloc ?_ _)); exact BK192.out⟩
               have n8_ : Aside0 (Below w.heap.size w (((((w54.setCell ⟨gb192, 0, none⟩ (.int .i64 20000)).setCell ⟨gb192, 1, none⟩ (.int .i64 20000)).setCell ⟨gb192, 2, none⟩ (.int .i64 0)).setCell ⟨gb192, 3, none⟩ (.int .i64 2)).setCell ⟨gb192, 4, none⟩ (.bool false))) := ⟨by repeat (first | (with_reducible first | exact HB.out | apply below_alloc | apply pw_below_drewN | apply below_drew1 | refine below_set ?_ GE165.out | refine below_set ?_ GE166.out | refine below_set ?_ GE192.out) | exact HB.out)⟩
               (try clear HO169)
               (try clear HO178)
               (try clear HO181)
               (try clear HO186)
               (try clear HO189)
               (try clear BK165)
               (try clear BK166)
               (try clear BK192)
               (try clear HB)
               generalize (((((w54.setCell ⟨gb192, 0, none⟩ (.int .i64 20000)).setCell ⟨gb192, 1, none⟩ (.int .i64 20000)).setCell ⟨gb192, 2, none⟩ (.int .i64 0)).setCell ⟨gb192, 3, none⟩ (.int .i64 2)).setCell ⟨gb192, 4, none⟩ (.bool false)) = w58 at n0_ n1_ n2_ n3_ n4_ n5_ n6_ n7_ n8_ ⊢
               have HO169 := n0_
               have HO178 := n1_
               have HO181 := n2_
               have HO186 := n3_
               have HO189 := n4_
               have BK165 := n5_
               have BK166 := n6_
               have BK192 := n7_
               have HB := n8_
               clear n0_ n1_ n2_ n3_ n4_ n5_ n6_ n7_ n8_
               have n0_ := Aside0.mk (Kd.R_drew HO169.out)
               have n1_ := Aside0.mk (Kd.R_drew HO178.out)
               have n2_ := Aside0.mk (Kd.R_drew HO181.out)
               have n3_ := Aside0.mk (Kd.R_drew HO186.out)
               have n4_ := Aside0.mk (Kd.R_drew HO189.out)
               have n5_ := Aside0.mk (blk_drew BK165.out)
               have n6_ := Aside0.mk (blk_drew BK166.out)
               have n7_ := Aside0.mk (blk_drew BK192.out)
               have n8_ := Aside0.mk (below_drew1 HB.out)
               clear HO169
               clear HO178
               clear HO181
               clear HO186
               clear HO189
               clear BK165
               clear BK166
               clear BK192
               clear HB
               have HO169 := n0_
               have HO178 := n1_
               have HO181 := n2_
               have HO186 := n3_
               have HO189 := n4_
               have BK165 := n5_
               have BK166 := n6_
               have BK192 := n7_
               have HB := n8_
               clear n0_ n1_ n2_ n3_ n4_ n5_ n6_ n7_ n8_
               have q60 : (2 : Int) ≤ ((y167.length : Int) : Int) := of_decide_eq_true (by first | (with_reducible assumption) | assumption)
               obtain ⟨i060, hi060, _, hsz60, _⟩ := info_parts info2
               have hroom60 : y167.length ≤ co32 := (Kd.R_reads' HO169.out).2.1
               have hC60 : Kd.C (Kd.int .i64) _ Ao32 y167.length y167 := (Kd.R_reads' HO169.out).2.2
               have hcut60 := cut_to (P := Try.prog) 26 2 .i64 Try.underlying26 hi060 Ao32 y167.length co32 2 (by omega) q60 hroom60
               have hr60 := Kd.C_take (m := 2) hC60 (by omega)
               have hy60 : y193.length = (2 : Int).toNat := (by rw [Ny193.out, List.length_take]; omega)
               rw [← Ny193.out] at hr60
               rw [← hy60] at hcut60
               have HR196 := Aside0.mk hr60
               have HC196 := Aside0.mk (show y193.length ≤ co32 from by omega)
               clear hr60 hC60 hroom60 hi060 hsz60
               have KY60 := Aside0.mk hy60
               clear hy60
               have KL60 := Aside0.mk (show 2 ≤ y167.length from by omega)
               replace q60 := eq_true q60
               refine start_ (n := 10) (S := fun w' => w'.cell? ⟨gb192, 0, none⟩ = some (.int .i64 20000) ∧ w'.cell? ⟨gb192, 1, none⟩ = some (.int .i64 20000) ∧ w'.cell? ⟨gb192, 2, none⟩ = some (.int .i64 0) ∧ w'.cell? ⟨gb192, 3, none⟩ = some (.int .i64 2) ∧ w'.cell? ⟨gb192, 4, none⟩ = some (.bool false)) (ds := []) #[false, false, false, false, false, false, false, false, false, false] (by kernel_rfl) rfl rfl ⟨(blk_cell BK192.out 0).trans rfl, (blk_cell BK192.out 1).trans rfl, (blk_cell BK192.out 2).trans rfl, (blk_cell BK192.out 3).trans rfl, (blk_cell BK192.out 4).trans rfl⟩ (fun hHeld => ?_); refine with_tabW plenumlaw36_awake0.tab11 plenumlaw36_awake0.bits11 (fun HT_ HW_ => ?_)
               generalize w58.drew = w59 at HO169 HO178 HO181 HO186 HO189 BK165 BK166 BK192 HB HR196 hHeld ⊢
               refine pure_ (i := 0) (N := some 58) (v := ?_) (a' := ?_) #[true, false, false, false, false, false, false, false, false, false] rfl rfl (any_of HT_.out (by kernel_rfl)) (fun _ _ _ h => h) (Or.inl ⟨by rfl, ?_⟩) ?_ ?_
               rotate_left
               ·
                intro w'
                go_simp
                with_reducible rfl
               rotate_left
               ·
                simp only [Act.put, List.setIfInBounds_toArray, List.set_cons_zero, List.set_cons_succ, i64_w, i32_w]
                rfl
               refine pure_ (i := 2) (N := some 60) (v := ?_) (a' := ?_) #[true, false, true, false, false, false, false, false, false, false] rfl rfl (any_of HT_.out (by kernel_rfl)) (fun _ _ _ h => h) (Or.inl ⟨by rfl, ?_⟩) ?_ ?_
               rotate_left
               ·
                intro w'
                go_simp
                with_reducible rfl
               rotate_left
               ·
                simp only [Act.put, List.setIfInBounds_toArray, List.set_cons_zero, List.set_cons_succ, i64_w, i32_w]
                rfl
               refine pure_ (i := 3) (N := some 61) (v := ?_) (a' := ?_) #[true, false, true, true, false, false, false, false, false, false] rfl rfl (any_of HT_.out (by kernel_rfl)) (fun _ _ _ h => h) (Or.inl ⟨by rfl, ?_⟩) ?_ ?_
               rotate_left
               ·
                intro w'
                go_simp
                with_reducible rfl
               rotate_left
               ·
                simp only [Act.put, List.setIfInBounds_toArray, List.set_cons_zero, List.set_cons_succ, i64_w, i32_w]
                rfl
               refine take_ (i := 1) (N := some 59) (v := ?_) (a' := ?_) #[true, true, true, true, false, false, false, false, false, false] rfl rfl (take_ofW HT_.out HW_.out (by kernel_rfl)) (fun _ _ _ h => h) (Or.inl ⟨by rfl, ?_⟩) hHeld ?_ ?_
               rotate_left
               ·
                rintro w' ⟨s0, s1, s2, s3, s4⟩
                go_simp
                with_reducible rfl
               rotate_left
               ·
                simp only [Act.put, List.setIfInBounds_toArray, List.set_cons_zero, List.set_cons_succ, i64_w, i32_w]
                rfl
               refine one_ (i := 4) (N := some 62) #[true, true, true, true, true, false, false, false, false, false] rfl rfl (one_of HT_.out (by kernel_rfl)) (by decide) (fun K hK => ?_)
               refine goes_ Try.func23 (by kernel_rfl) rfl #[.agg #[.int .i64 60, .int .i64 0], .agg #[.int .i64 20000, .int .i64 20000, .int .i64 0, .int .i64 2, .bool false], .slice Ao32 y193.length co32, .int .i64 20] (by rfl) rfl rfl (by (try simp only [List.map_toArray, List.map_cons, List.map_nil]); first | done | rfl | (simp only [List.length_drop, List.length_take]; rfl) | (simp [go_sem]; rw [KY60.out, KY63.out])) ?_
               with_reducible refine (optimal_Stop.calls k 60 0 20000 20000 0 2 false _ _ y193 20 t197 t198 _ ?side1 ?side2 A8.out).mono ?_
               (case side1 => repeat (first | exact (by repeat (first | (with_reducible exact HR196.out) | (with_reducible refine Kd.C_alloc ?_ _) | (with_reducible refine Kd.C_drewN ?_ _) | (with_reducible refine Kd.C_drew ?_) | exact HR196.out)) | (with_reducible refine Kd.C_alloc ?_ _) | (with_reducible refine Kd.C_drewN ?_ _) | (with_reducible refine Kd.C_drew ?_)))
               (case side2 => exact HC196.out)
               rintro e w61 ⟨rfl, hb⟩
               refine ⟨_, rfl, ?_⟩
               have n0_ := Aside0.mk (Kd.R_below (by (with_reducible repeat (first | apply Kd.R_alloc | apply Kd.R_drewN | apply Kd.R_drew)); exact HO169.out) hb)
               have n1_ := Aside0.mk (Kd.R_below (by (with_reducible repeat (first | apply Kd.R_alloc | apply Kd.R_drewN | apply Kd.R_drew)); exact HO178.out) hb)
               have n2_ := Aside0.mk (Kd.R_below (by (with_reducible repeat (first | apply Kd.R_alloc | apply Kd.R_drewN | apply Kd.R_drew)); exact HO181.out) hb)
               have n3_ := Aside0.mk (Kd.R_below (by (with_reducible repeat (first | apply Kd.R_alloc | apply Kd.R_drewN | apply Kd.R_drew)); exact HO186.out) hb)
               have n4_ := Aside0.mk (Kd.R_below (by (with_reducible repeat (first | apply Kd.R_alloc | apply Kd.R_drewN | apply Kd.R_drew)); exact HO189.out) hb)
               have n5_ := Aside0.mk (blk_below (g := gb165) (o := .cells #[.int .i64 0, .int .i64 6000] 23 (0, 0)) (by (with_reducible repeat (first | refine blk_drewN ?_ _ | refine blk_drew ?_ | refine blk_alloc ?_ _)); exact BK165.out) hb)
               have n6_ := Aside0.mk (blk_below (g := gb166) (o := .cells #[.int .i64 18000, .int .i64 20001, .int .i64 0, .int .i64 20, .bool false] 32 (0, 0)) (by (with_reducible repeat (first | refine blk_drewN ?_ _ | refine blk_drew ?_ | refine blk_alloc ?_ _)); exact BK166.out) hb)
               have n7_ := Aside0.mk (blk_below (g := gb192) (o := .cells #[.int .i64 20000, .int .i64 20000, .int .i64 0, .int .i64 2, .bool false] 32 (0, 0)) (by (with_reducible repeat (first | refine blk_drewN ?_ _ | refine blk_drew ?_ | refine blk_alloc ?_ _)); exact BK192.out) hb)
               have n8_ := Aside0.mk (Kd.C_below (by repeat (first | (with_reducible exact HR196.out) | (with_reducible refine Kd.C_alloc ?_ _) | (with_reducible refine Kd.C_drewN ?_ _) | (with_reducible refine Kd.C_drew ?_) | exact HR196.out)) hb)
               have n9_ := Aside0.mk (below_step (by repeat (first | (with_reducible first | exact HB.out | apply below_alloc | apply pw_below_drewN | apply below_drew1 | refine below_set ?_ GE165.out | refine below_set ?_ GE166.out | refine below_set ?_ GE192.out) | exact HB.out)) hb)
               clear HO169
               clear HO178
               clear HO181
               clear HO186
               clear HO189
               clear BK165
               clear BK166
               clear BK192
               clear HR196
               clear HB
               have HO169 := n0_
               have HO178 := n1_
               have HO181 := n2_
               have HO186 := n3_
               have HO189 := n4_
               have BK165 := n5_
               have BK166 := n6_
               have BK192 := n7_
               have HR196 := n8_
               have HB := n9_
               clear n0_ n1_ n2_ n3_ n4_ n5_ n6_ n7_ n8_ n9_
               (try clear hb)
               (try clear hb2)
               (try clear hk)
               (try clear hi)
               refine hK.out _ _ ⟨(blk_cell BK192.out 0).trans rfl, (blk_cell BK192.out 1).trans rfl, (blk_cell BK192.out 2).trans rfl, (blk_cell BK192.out 3).trans rfl, (blk_cell BK192.out 4).trans rfl⟩ (fun hHeld => ?_)
               clear hK K
               refine norm_ (a' := ?_) ?_ ?_
               rotate_left
               ·
                show Act.put _ (some 62) _ = _
                simp only [Act.put, List.setIfInBounds_toArray, List.set_cons_zero, List.set_cons_succ, i64_w, i32_w]
                rfl
               refine pure_ (i := 5) (N := some 57) (v := ?_) (a' := ?_) #[true, true, true, true, true, true, false, false, false, false] rfl rfl (any_of HT_.out (by kernel_rfl)) (fun _ _ _ h => h) (Or.inl ⟨by rfl, ?_⟩) ?_ ?_
               rotate_left
               ·
                intro w'
                go_simp
                with_reducible rfl
               rotate_left
               ·
                simp only [Act.put, List.setIfInBounds_toArray, List.set_cons_zero, List.set_cons_succ, i64_w, i32_w]
                rfl
               refine pure_ (i := 6) (N := some 63) (v := ?_) (a' := ?_) #[true, true, true, true, true, true, true, false, false, false] rfl rfl (any_of HT_.out (by kernel_rfl)) (fun _ _ _ h => h) (Or.inl ⟨by rfl, ?_⟩) ?_ ?_
               rotate_left
               ·
                intro w'
                go_simp
                with_reducible rfl
               rotate_left
               ·
                simp only [Act.put, List.setIfInBounds_toArray, List.set_cons_zero, List.set_cons_succ, i64_w, i32_w]
                rfl
               refine pure_ (i := 7) (N := some 64) (v := ?_) (a' := ?_) #[true, true, true, true, true, true, true, true, false, false] rfl rfl (any_of HT_.out (by kernel_rfl)) (fun _ _ _ h => h) (Or.inl ⟨by rfl, ?_⟩) ?_ ?_
               rotate_left
               ·
                intro w'
                go_simp
                with_reducible rfl
               rotate_left
               ·
                simp only [Act.put, List.setIfInBounds_toArray, List.set_cons_zero, List.set_cons_succ, i64_w, i32_w]
                rfl
               refine pure_ (i := 8) (N := some 15) (v := ?_) (a' := ?_) #[true, true, true, true, true, true, true, true, true, false] rfl rfl (any_of HT_.out (by kernel_rfl)) (fun _ _ _ h => h) (Or.inl ⟨by rfl, ?_⟩) ?_ ?_
               rotate_left
               ·
                intro w'
                go_simp
                with_reducible rfl
               rotate_left
               ·
                simp only [Act.put, List.setIfInBounds_toArray, List.set_cons_zero, List.set_cons_succ, i64_w, i32_w]
                rfl
               refine pure_ (i := 9) (N := some 16) (v := ?_) (a' := ?_) #[true, true, true, true, true, true, true, true, true, true] rfl rfl (any_of HT_.out (by kernel_rfl)) (fun _ _ _ h => h) (Or.inl ⟨by rfl, ?_⟩) ?_ ?_
               rotate_left
               ·
                intro w'
                go_simp
                with_reducible rfl
               rotate_left
               ·
                simp only [Act.put, List.setIfInBounds_toArray, List.set_cons_zero, List.set_cons_succ, i64_w, i32_w]
                rfl
               refine done_ (done_of HT_.out (by kernel_rfl)) ?_
               try go_wp2
               have n0_ := Aside0.mk (Kd.R_drew HO169.out)
               have n1_ := Aside0.mk (Kd.R_drew HO178.out)
               have n2_ := Aside0.mk (Kd.R_drew HO181.out)
               have n3_ := Aside0.mk (Kd.R_drew HO186.out)
               have n4_ := Aside0.mk (Kd.R_drew HO189.out)
               have n5_ := Aside0.mk (blk_drew BK165.out)
               have n6_ := Aside0.mk (blk_drew BK166.out)
               have n7_ := Aside0.mk (blk_drew BK192.out)
               have n8_ := Aside0.mk (Kd.C_drew HR196.out)
               have n9_ := Aside0.mk (below_drew1 HB.out)
               clear HO169
               clear HO178
               clear HO181
               clear HO186
               clear HO189
               clear BK165
               clear BK166
               clear BK192
               clear HR196
               clear HB
               have HO169 := n0_
               have HO178 := n1_
               have HO181 := n2_
               have HO186 := n3_
               have HO189 := n4_
               have BK165 := n5_
               have BK166 := n6_
               have BK192 := n7_
               have HR196 := n8_
               have HB := n9_
               clear n0_ n1_ n2_ n3_ n4_ n5_ n6_ n7_ n8_ n9_
               have q63 : (2 : Int) ≤ ((y167.length : Int) : Int) := of_decide_eq_true (by first | (with_reducible assumption) | assumption)
               obtain ⟨i063, hi063, _, hsz63, _⟩ := info_parts info2
               have hroom63 : y167.length ≤ co32 := (Kd.R_reads' HO169.out).2.1
               have hC63 : Kd.C (Kd.int .i64) _ Ao32 y167.length y167 := (Kd.R_reads' HO169.out).2.2
               have hcut63 := cut_to (P := Try.prog) 26 2 .i64 Try.underlying26 hi063 Ao32 y167.length co32 2 (by omega) q63 hroom63
               have hr63 := Kd.C_take (m := 2) hC63 (by omega)
               have hy63 : y199.length = (2 : Int).toNat := (by rw [Ny199.out, List.length_take]; omega)
               rw [← Ny199.out] at hr63
               rw [← hy63] at hcut63
               have HR202 := Aside0.mk hr63
               have HC202 := Aside0.mk (show y199.length ≤ co32 from by omega)
               clear hr63 hC63 hroom63 hi063 hsz63
               have KY63 := Aside0.mk hy63
               clear hy63
               have KL63 := Aside0.mk (show 2 ≤ y167.length from by omega)
               replace q63 := eq_true q63
               refine start_ (n := 10) (S := fun w' => w'.cell? ⟨gb192, 0, none⟩ = some (.int .i64 20000) ∧ w'.cell? ⟨gb192, 1, none⟩ = some (.int .i64 20000) ∧ w'.cell? ⟨gb192, 2, none⟩ = some (.int .i64 0) ∧ w'.cell? ⟨gb192, 3, none⟩ = some (.int .i64 2) ∧ w'.cell? ⟨gb192, 4, none⟩ = some (.bool false)) (ds := []) #[false, false, false, false, false, false, false, false, false, false] (by kernel_rfl) rfl rfl ⟨(blk_cell BK192.out 0).trans rfl, (blk_cell BK192.out 1).trans rfl, (blk_cell BK192.out 2).trans rfl, (blk_cell BK192.out 3).trans rfl, (blk_cell BK192.out 4).trans rfl⟩ (fun hHeld => ?_); refine with_tabW plenumlaw36_awake0.tab12 plenumlaw36_awake0.bits12 (fun HT_ HW_ => ?_)
               generalize w61.drew = w62 at HO169 HO178 HO181 HO186 HO189 BK165 BK166 BK192 HR196 HB HR202 hHeld ⊢
               refine pure_ (i := 0) (N := some 66) (v := ?_) (a' := ?_) #[true, false, false, false, false, false, false, false, false, false] rfl rfl (any_of HT_.out (by kernel_rfl)) (fun _ _ _ h => h) (Or.inl ⟨by rfl, ?_⟩) ?_ ?_
               rotate_left
               ·
                intro w'
                go_simp
                with_reducible rfl
               rotate_left
               ·
                simp only [Act.put, List.setIfInBounds_toArray, List.set_cons_zero, List.set_cons_succ, i64_w, i32_w]
                rfl
               refine pure_ (i := 2) (N := some 68) (v := ?_) (a' := ?_) #[true, false, true, false, false, false, false, false, false, false] rfl rfl (any_of HT_.out (by kernel_rfl)) (fun _ _ _ h => h) (Or.inl ⟨by rfl, ?_⟩) ?_ ?_
               rotate_left
               ·
                intro w'
                go_simp
                with_reducible rfl
               rotate_left
               ·
                simp only [Act.put, List.setIfInBounds_toArray, List.set_cons_zero, List.set_cons_succ, i64_w, i32_w]
                rfl
               refine pure_ (i := 3) (N := some 69) (v := ?_) (a' := ?_) #[true, false, true, true, false, false, false, false, false, false] rfl rfl (any_of HT_.out (by kernel_rfl)) (fun _ _ _ h => h) (Or.inl ⟨by rfl, ?_⟩) ?_ ?_
               rotate_left
               ·
                intro w'
                go_simp
                with_reducible rfl
               rotate_left
               ·
                simp only [Act.put, List.setIfInBounds_toArray, List.set_cons_zero, List.set_cons_succ, i64_w, i32_w]
                rfl
               refine take_ (i := 1) (N := some 67) (v := ?_) (a' := ?_) #[true, true, true, true, false, false, false, false, false, false] rfl rfl (take_ofW HT_.out HW_.out (by kernel_rfl)) (fun _ _ _ h => h) (Or.inl ⟨by rfl, ?_⟩) hHeld ?_ ?_
               rotate_left
               ·
                rintro w' ⟨s0, s1, s2, s3, s4⟩
                go_simp
                with_reducible rfl
               rotate_left
               ·
                simp only [Act.put, List.setIfInBounds_toArray, List.set_cons_zero, List.set_cons_succ, i64_w, i32_w]
                rfl
               refine one_ (i := 4) (N := some 70) #[true, true, true, true, true, false, false, false, false, false] rfl rfl (one_of HT_.out (by kernel_rfl)) (by decide) (fun K hK => ?_)
               refine goes_ Try.func23 (by kernel_rfl) rfl #[.agg #[.int .i64 60, .int .i64 0], .agg #[.int .i64 20000, .int .i64 20000, .int .i64 0, .int .i64 2, .bool false], .slice Ao32 y199.length co32, .int .i64 40] (by rfl) rfl rfl (by (try simp only [List.map_toArray, List.map_cons, List.map_nil]); first | done | rfl | (simp only [List.length_drop, List.length_take]; rfl) | (simp [go_sem]; rw [KY60.out, KY63.out])) ?_
               with_reducible refine (optimal_Stop.calls k 60 0 20000 20000 0 2 false _ _ y199 40 t203 t204 _ ?side1 ?side2 A10.out).mono ?_
               (case side1 => repeat (first | exact (by repeat (first | (with_reducible exact HR202.out) | (with_reducible refine Kd.C_alloc ?_ _) | (with_reducible refine Kd.C_drewN ?_ _) | (with_reducible refine Kd.C_drew ?_) | exact HR202.out)) | (with_reducible refine Kd.C_alloc ?_ _) | (with_reducible refine Kd.C_drewN ?_ _) | (with_reducible refine Kd.C_drew ?_)))
               (case side2 => exact HC202.out)
               rintro e w64 ⟨rfl, hb⟩
               refine ⟨_, rfl, ?_⟩
               have n0_ := Aside0.mk (Kd.R_below (by (with_reducible repeat (first | apply Kd.R_alloc | apply Kd.R_drewN | apply Kd.R_drew)); exact HO169.out) hb)
               have n1_ := Aside0.mk (Kd.R_below (by (with_reducible repeat (first | apply Kd.R_alloc | apply Kd.R_drewN | apply Kd.R_drew)); exact HO178.out) hb)
               have n2_ := Aside0.mk (Kd.R_below (by (with_reducible repeat (first | apply Kd.R_alloc | apply Kd.R_drewN | apply Kd.R_drew)); exact HO181.out) hb)
               have n3_ := Aside0.mk (Kd.R_below (by (with_reducible repeat (first | apply Kd.R_alloc | apply Kd.R_drewN | apply Kd.R_drew)); exact HO186.out) hb)
               have n4_ := Aside0.mk (Kd.R_below (by (with_reducible repeat (first | apply Kd.R_alloc | apply Kd.R_drewN | apply Kd.R_drew)); exact HO189.out) hb)
               have n5_ := Aside0.mk (blk_below (g := gb165) (o := .cells #[.int .i64 0, .int .i64 6000] 23 (0, 0)) (by (with_reducible repeat (first | refine blk_drewN ?_ _ | refine blk_drew ?_ | refine blk_alloc ?_ _)); exact BK165.out) hb)
               have n6_ := Aside0.mk (blk_below (g := gb166) (o := .cells #[.int .i64 18000, .int .i64 20001, .int .i64 0, .int .i64 20, .bool false] 32 (0, 0)) (by (with_reducible repeat (first | refine blk_drewN ?_ _ | refine blk_drew ?_ | refine blk_alloc ?_ _)); exact BK166.out) hb)
               have n7_ := Aside0.mk (blk_below (g := gb192) (o := .cells #[.int .i64 20000, .int .i64 20000, .int .i64 0, .int .i64 2, .bool false] 32 (0, 0)) (by (with_reducible repeat (first | refine blk_drewN ?_ _ | refine blk_drew ?_ | refine blk_alloc ?_ _)); exact BK192.out) hb)
               have n8_ := Aside0.mk (Kd.C_below (by repeat (first | (with_reducible exact HR196.out) | (with_reducible refine Kd.C_alloc ?_ _) | (with_reducible refine Kd.C_drewN ?_ _) | (with_reducible refine Kd.C_drew ?_) | exact HR196.out)) hb)
               have n9_ := Aside0.mk (Kd.C_below (by repeat (first | (with_reducible exact HR202.out) | (with_reducible refine Kd.C_alloc ?_ _) | (with_reducible refine Kd.C_drewN ?_ _) | (with_reducible refine Kd.C_drew ?_) | exact HR202.out)) hb)
               have n10_ := Aside0.mk (below_step (by repeat (first | (with_reducible first | exact HB.out | apply below_alloc | apply pw_below_drewN | apply below_drew1 | refine below_set ?_ GE165.out | refine below_set ?_ GE166.out | refine below_set ?_ GE192.out) | exact HB.out)) hb)
               clear HO169
               clear HO178
               clear HO181
               clear HO186
               clear HO189
               clear BK165
               clear BK166
               clear BK192
               clear HR196
               clear HR202
               clear HB
               have HO169 := n0_
               have HO178 := n1_
               have HO181 := n2_
               have HO186 := n3_
               have HO189 := n4_
               have BK165 := n5_
               have BK166 := n6_
               have BK192 := n7_
               have HR196 := n8_
               have HR202 := n9_
               have HB := n10_
               clear n0_ n1_ n2_ n3_ n4_ n5_ n6_ n7_ n8_ n9_ n10_
               (try clear hb)
               (try clear hb2)
               (try clear hk)
               (try clear hi)
               refine hK.out _ _ ⟨(blk_cell BK192.out 0).trans rfl, (blk_cell BK192.out 1).trans rfl, (blk_cell BK192.out 2).trans rfl, (blk_cell BK192.out 3).trans rfl, (blk_cell BK192.out 4).trans rfl⟩ (fun hHeld => ?_)
               clear hK K
               refine norm_ (a' := ?_) ?_ ?_
               rotate_left
               ·
                show Act.put _ (some 70) _ = _
                simp only [Act.put, List.setIfInBounds_toArray, List.set_cons_zero, List.set_cons_succ, i64_w, i32_w]
                rfl
               refine pure_ (i := 5) (N := some 65) (v := ?_) (a' := ?_) #[true, true, true, true, true, true, false, false, false, false] rfl rfl (any_of HT_.out (by kernel_rfl)) (fun _ _ _ h => h) (Or.inl ⟨by rfl, ?_⟩) ?_ ?_
               rotate_left
               ·
                intro w'
                go_simp
                with_reducible rfl
               rotate_left
               ·
                simp only [Act.put, List.setIfInBounds_toArray, List.set_cons_zero, List.set_cons_succ, i64_w, i32_w]
                rfl
               refine pure_ (i := 6) (N := some 71) (v := ?_) (a' := ?_) #[true, true, true, true, true, true, true, false, false, false] rfl rfl (any_of HT_.out (by kernel_rfl)) (fun _ _ _ h => h) (Or.inl ⟨by rfl, ?_⟩) ?_ ?_
               rotate_left
               ·
                intro w'
                go_simp
                with_reducible rfl
               rotate_left
               ·
                simp only [Act.put, List.setIfInBounds_toArray, List.set_cons_zero, List.set_cons_succ, i64_w, i32_w]
                rfl
               refine pure_ (i := 7) (N := some 72) (v := ?_) (a' := ?_) #[true, true, true, true, true, true, true, true, false, false] rfl rfl (any_of HT_.out (by kernel_rfl)) (fun _ _ _ h => h) (Or.inl ⟨by rfl, ?_⟩) ?_ ?_
               rotate_left
               ·
                intro w'
                go_simp
                with_reducible rfl
               rotate_left
               ·
                simp only [Act.put, List.setIfInBounds_toArray, List.set_cons_zero, List.set_cons_succ, i64_w, i32_w]
                rfl
               refine pure_ (i := 8) (N := some 17) (v := ?_) (a' := ?_) #[true, true, true, true, true, true, true, true, true, false] rfl rfl (any_of HT_.out (by kernel_rfl)) (fun _ _ _ h => h) (Or.inl ⟨by rfl, ?_⟩) ?_ ?_
               rotate_left
               ·
                intro w'
                go_simp
                with_reducible rfl
               rotate_left
               ·
                simp only [Act.put, List.setIfInBounds_toArray, List.set_cons_zero, List.set_cons_succ, i64_w, i32_w]
                rfl
               refine pure_ (i := 9) (N := some 18) (v := ?_) (a' := ?_) #[true, true, true, true, true, true, true, true, true, true] rfl rfl (any_of HT_.out (by kernel_rfl)) (fun _ _ _ h => h) (Or.inl ⟨by rfl, ?_⟩) ?_ ?_
               rotate_left
               ·
                intro w'
                go_simp
                with_reducible rfl
               rotate_left
               ·
                simp only [Act.put, List.setIfInBounds_toArray, List.set_cons_zero, List.set_cons_succ, i64_w, i32_w]
                rfl
               refine done_ (done_of HT_.out (by kernel_rfl)) ?_
               try go_wp2
               go_ret
               exact ⟨by first | rfl | (simp [errW_none, errW_some] <;> rfl) | (simp [*, errW_none, errW_some] <;> rfl), by repeat (first | (with_reducible first | exact HB.out | apply below_alloc | apply pw_below_drewN | apply below_drew1 | refine below_set ?_ GE165.out | refine below_set ?_ GE166.out | refine below_set ?_ GE192.out) | exact HB.out)⟩
              ·
               rw [if_neg c22] at H
               first | exact plenumlaw36_awake0.ff HR_.out H | exact absurd H (by simp)
             ·
              rw [if_neg c21] at H
              first | exact plenumlaw36_awake0.ff HR_.out H | exact absurd H (by simp)
            ·
             rw [if_neg c20] at H
             first | exact plenumlaw36_awake0.ff HR_.out H | exact absurd H (by simp)
           ·
            rw [if_neg c19] at H
            first | exact plenumlaw36_awake0.ff HR_.out H | exact absurd H (by simp)
          ·
           rw [if_neg c18] at H
           first | exact plenumlaw36_awake0.ff HR_.out H | exact absurd H (by simp)
         ·
          rw [if_neg c17] at H
          first | exact plenumlaw36_awake0.ff HR_.out H | exact absurd H (by simp)
        ·
         rw [if_neg c16] at H
         first | exact plenumlaw36_awake0.ff HR_.out H | exact absurd H (by simp)
       ·
        rw [if_neg c15] at H
        first | exact plenumlaw36_awake0.ff HR_.out H | exact absurd H (by simp)
      ·
       rw [if_neg c14] at H
       first | exact plenumlaw36_awake0.ff HR_.out H | exact absurd H (by simp)
     ·
      rw [if_neg c13] at H
      first | exact plenumlaw36_awake0.ff HR_.out H | exact absurd H (by simp)
    ·
     rw [if_neg c12] at H
     first | exact plenumlaw36_awake0.ff HR_.out H | exact absurd H (by simp)
   ·
    rw [if_neg c11] at H
    first | exact plenumlaw36_awake0.ff HR_.out H | exact absurd H (by simp)
  ·
   rw [if_neg c7] at H
   first | exact plenumlaw36_awake0.ff HR_.out H | exact absurd H (by simp)
 ·
  rw [if_neg c1] at H
  first | exact plenumlaw36_awake0.ff HR_.out H | exact absurd H (by simp)
/-- Its own call answers true. -/
def plenumlaw36_awake.f : Option (Bool) := some true
set_option maxRecDepth 1000000 in
theorem plenumlaw36_awake0.run : plenumlaw36_awake0.f 2000 = some true := by decide +kernel
theorem plenumlaw36_awake.calls (r : Bool) (w : World) (h : plenumlaw36_awake.f = some r) :
 Calls Try.prog 9 #[] w fun e w' => e = .returned (.bool r) ∧ Below w.heap.size w w' := by
 obtain rfl := Option.some.inj h
 exact plenumlaw36_awake0.callsT 2000 true rfl w plenumlaw36_awake0.run
end Go.Proofs.Ytpehicdglooeaaa.PT
