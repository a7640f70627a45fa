-- What the controller's functions compute: Check, Proportional, Control.
import Derived.Test.YteigdhpchkkloaaDoorDiv
import Derived.Test.YteigdhpchkkloaaDoorPTx18
import Derived.Test.YteigdhpchkkloaaDoorPTx16
import Derived.Test.YteigdhpchkkloaaDoorPTx13
import Derived.Test.YteigdhpchkkloaaDoorPTx12
import Derived.Test.YteigdhpchkkloaaDoorPTx9
import Derived.Test.YteigdhpchkkloaaDoorPTx11
import Derived.Test.YteigdhpchkkloaaDoorPTx15
namespace Go.Proofs.YteigdhpchkkloaaDoor.Pure
open Go.RowKit Go.Proofs.YteigdhpchkkloaaDoor.PT Go.Proofs.YteigdhpchkkloaaDoorW.PrintWords Go.Proofs.YteigdhpchkkloaaDoorW.PrintLast Go.Proofs.YteigdhpchkkloaaDoorW.PrintMore
set_option linter.unusedVariables false
set_option linter.unusedSimpArgs false
theorem and32 (x : Int) (hx0 : 0 ≤ x) (hx1 : x < 18446744073709551616) : Go.bits .and .u64 x 4294967295 = x % 4294967296 := by
  have := bits_mask .u64 64 (by decide) wu_pow 32 (by decide) x hx0 hx1
  simpa using this
theorem mul_lt32 {x y : Int} (h0 : 0 ≤ x) (h1 : x < 4294967296) (g0 : 0 ≤ y) (g1 : y < 4294967296) : 0 ≤ x * y ∧ x * y ≤ 18446744065119617025 := by
  have h2 : x * y ≤ 4294967295 * y := Int.mul_le_mul_of_nonneg_right (by omega) g0
  exact ⟨Int.mul_nonneg h0 g0, by omega⟩
theorem mul64 {a b : Int} (a0 : 0 ≤ a) (a1 : a < 18446744073709551616) (b0 : 0 ≤ b) (b1 : b < 18446744073709551616) :
    bits_Mul64.f a b = some (a * b / 18446744073709551616, a * b % 18446744073709551616) := by
  unfold bits_Mul64.f
  rw [and32 a a0 a1, and32 b b0 b1]
  have hab : a * b = (a / 4294967296) * (b / 4294967296) * 18446744073709551616 + ((a / 4294967296) * (b % 4294967296) + (a % 4294967296) * (b / 4294967296)) * 4294967296 + (a % 4294967296) * (b % 4294967296) := by
    have ha : a = (a / 4294967296) * 4294967296 + a % 4294967296 := by omega
    have hb : b = (b / 4294967296) * 4294967296 + b % 4294967296 := by omega
    generalize a / 4294967296 = ah at *
    generalize a % 4294967296 = al at *
    generalize b / 4294967296 = bh at *
    generalize b % 4294967296 = bl at *
    subst ha hb
    grind
  obtain ⟨p1, p1'⟩ := mul_lt32 (x := a / 4294967296) (y := b / 4294967296) (by omega) (by omega) (by omega) (by omega)
  obtain ⟨p2, p2'⟩ := mul_lt32 (x := a / 4294967296) (y := b % 4294967296) (by omega) (by omega) (by omega) (by omega)
  obtain ⟨p3, p3'⟩ := mul_lt32 (x := a % 4294967296) (y := b / 4294967296) (by omega) (by omega) (by omega) (by omega)
  obtain ⟨p4, p4'⟩ := mul_lt32 (x := a % 4294967296) (y := b % 4294967296) (by omega) (by omega) (by omega) (by omega)
  rw [hab]
  generalize a / 4294967296 * (b / 4294967296) = hh at *
  generalize a / 4294967296 * (b % 4294967296) = hl at *
  generalize a % 4294967296 * (b / 4294967296) = lh at *
  generalize a % 4294967296 * (b % 4294967296) = ll at *
  rw [wu_id (x := ll) p4 (by omega), wu_id (x := hl) p2 (by omega), wu_id (x := lh) p3 (by omega), wu_id (x := hh) p1 (by omega)]
  rw [wu_id (x := hl + ll / 4294967296) (by omega) (by omega)]
  rw [and32 _ (by omega) (by omega)]
  rw [wu_id (x := (hl + ll / 4294967296) % 4294967296 + lh) (by omega) (by omega)]
  simp only [wu]
  refine congrArg some (Prod.ext ?_ rfl)
  show _ = _
  omega
def inR (x : Int) : Prop := -1000000000000 ≤ x ∧ x ≤ 1000000000000
instance (x : Int) : Decidable (inR x) := inferInstanceAs (Decidable (_ ∧ _))
theorem evu {α : Type} {g : Nat → Option α} {r : α} (h : Ev (fun k => g (k + 1)) r) : Ev g r := Ev.step (fun _ => rfl) h
def cl (x : Int) : Int := mx (-1000000000000) (mn 1000000000000 x)
theorem cl_R (x : Int) : inR (cl x) := by unfold inR cl mx mn; repeat (first | omega | split)
theorem cl_id {x : Int} (h : inR x) : cl x = x := by unfold inR at h; unfold cl mx mn; repeat (first | omega | split)
theorem clf (x : Int) : fixed_Clamp.f x = some (cl x) := rfl
theorem szf {x : Int} (h : inR x) : fixed_size.f x = some ((x.natAbs : Int), decide (x < 0)) := by
  unfold inR at h
  unfold fixed_size.f
  by_cases c : x < 0
  · rw [if_pos c, w64s (x := -x) (by omega) (by omega), wu_id (by omega) (by omega), decide_eq_true c]
    exact congrArg some (Prod.ext (by simp only; omega) rfl)
  · rw [if_neg c, wu_id (by omega) (by omega), decide_eq_false c]
    exact congrArg some (Prod.ext (by simp only; omega) rfl)
/-- A quotient of the program is in range. -/
theorem quo_in (neg : Bool) {P : Int} (h0 : 0 ≤ P) (h1 : P ≤ 1000000000000000000000000) : ∃ p, Ev (fun k => fixed_quotient.f k (P / 18446744073709551616) (P % 18446744073709551616) 1000 neg) p ∧ inR p := by
  by_cases c : P / 18446744073709551616 < 1000
  · have hd := div64 (hi := P / 18446744073709551616) (lo := P % 18446744073709551616) (y := 1000) (by omega) c (by omega) (by omega) (by omega)
    obtain ⟨q, hq⟩ : ∃ q, (P / 18446744073709551616 * 18446744073709551616 + P % 18446744073709551616) / 1000 = q := ⟨_, rfl⟩
    obtain ⟨r, hr⟩ : ∃ r, (P / 18446744073709551616 * 18446744073709551616 + P % 18446744073709551616) % 1000 = r := ⟨_, rfl⟩
    rw [hq, hr] at hd
    have hq0 : 0 ≤ q := by omega
    have hj : ∀ b, (b = true → q < 1000000000000) → ∃ p, Ev (fun k => fixed_quotient.j0 k neg 1000000000000 q b) p ∧ inR p := fun b hb => by
      obtain ⟨m, hm⟩ : ∃ m, m = if b = true then q + 1 else mn 1000000000000 q := ⟨_, rfl⟩
      have hm0 : 0 ≤ m ∧ m ≤ 1000000000000 := by
        cases b
        · rw [hm]; simp only [Bool.false_eq_true, if_false]; unfold mn; split <;> omega
        · have := hb rfl; rw [hm]; simp only [if_true]; omega
      refine ⟨if neg = true then -m else m, evs (f := fun k => some _) (fun k => ?_) (Ev.now _), by unfold inR; split <;> omega⟩
      simp only [fixed_quotient.j0]
      cases b
      · simp only [Bool.false_eq_true, if_false] at hm ⊢
        rw [← hm, w64s (x := m) (by omega) (by omega), w64s (x := -m) (by omega) (by omega)]
        cases neg <;> rfl
      · have hlt := hb rfl
        simp only [if_true] at hm ⊢
        have e : mn 1000000000000 (IntKind.u64.wrap (q + 1)) = m := by
          rw [wu_id (by omega) (by omega), hm]
          unfold mn
          split <;> omega
        rw [e, w64s (x := m) (by omega) (by omega), w64s (x := -m) (by omega) (by omega)]
        cases neg <;> rfl
    obtain ⟨p, hp, hpR⟩ := hj (decide (q < 1000000000000) && decide (r ≥ IntKind.u64.wrap (1000 - r))) (fun h => by simp at h; exact h.1)
    refine ⟨p, ?_, hpR⟩
    unfold fixed_quotient.f
    simp only [if_pos c]
    refine Ev.bind hd ?_
    refine Ev.congr (fun k => ?_) hp
    by_cases hl : q < 1000000000000
    · rw [if_pos hl, decide_eq_true hl, Bool.true_and]
    · rw [if_neg hl, decide_eq_false hl, Bool.false_and]
  · refine ⟨if neg = true then -1000000000000 else 1000000000000, ?_, by unfold inR; split <;> omega⟩
    unfold fixed_quotient.f
    simp only [if_neg c]
    cases neg <;> exact Ev.now _
theorem muldiv_in (a b : Int) : ∃ p, Ev (fun k => fixed_MulDiv.f k a b 1000) p ∧ inR p ∧ (cl b = 0 → p = 0) := by
  have ha := cl_R a
  have hb := cl_R b
  have hc : inR (1000 : Int) := by unfold inR; omega
  have hc' := cl_id hc
  obtain ⟨P, hP⟩ : ∃ P, P = ((cl a).natAbs : Int) * ((cl b).natAbs : Int) := ⟨_, rfl⟩
  have hP0 : 0 ≤ P ∧ P ≤ 1000000000000000000000000 := by
    rw [hP]
    unfold inR at ha hb
    exact ⟨Int.mul_nonneg (by omega) (by omega), Int.mul_le_mul (c := 1000000000000) (d := 1000000000000) (by omega) (by omega) (by omega) (by omega)⟩
  have hpre : ∀ k, fixed_MulDiv.f k a b 1000 = if P = 0 then some 0 else fixed_MulDiv.j0 k (decide (cl a < 0)) (decide (cl b < 0)) 1000 false false (P / 18446744073709551616) (P % 18446744073709551616) := by
    intro k
    unfold fixed_MulDiv.f
    rw [clf, clf, clf, hc']
    simp only [Option.bind_some]
    rw [szf ha, szf hb, szf hc]
    simp only [Option.bind_some]
    unfold inR at ha hb
    rw [mul64 (by omega) (by omega) (by omega) (by omega), ← hP]
    simp only [Option.bind_some]
    rw [show ((1000 : Int).natAbs : Int) = 1000 from rfl, if_neg (show ¬ (1000 : Int) = 0 by omega)]
    by_cases hz : P = 0
    · rw [if_pos hz, hz]; rfl
    · rw [if_neg hz, if_neg (by simp only [Bool.and_eq_true, beq_iff_eq]; omega)]
      rfl
  by_cases hz : P = 0
  · exact ⟨0, Ev.congr (fun k => (hpre k).trans (if_pos hz)) (Ev.now _), by unfold inR; omega, fun _ => rfl⟩
  · obtain ⟨p, hp, hpR⟩ := quo_in (decide (cl a < 0) != decide (cl b < 0)) hP0.1 hP0.2
    refine ⟨p, Ev.congr (fun k => (hpre k).trans (if_neg hz)) (evs (f := fun k => (fixed_quotient.f k (P / 18446744073709551616) (P % 18446744073709551616) 1000 (decide (cl a < 0) != decide (cl b < 0))).bind fun t => some t) (fun k => ?_) (Ev.bind hp (Ev.now _))), hpR, fun h => ?_⟩
    · simp only [fixed_MulDiv.j0]
      rw [if_neg (by decide), if_neg (by omega), Bool.bne_false]
    · rw [h] at hP
      exact absurd (by simpa using hP) hz
theorem add2 (x y : Int) : Ev (fun k => fixed_add.f k [x, y]) (cl (cl x + cl y)) := by
  have hx := cl_R x
  have hy := cl_R y
  unfold inR at hx hy
  have r0 : rd [x, y] 0 = x := rfl
  have r1 : rd [x, y] 1 = y := rfl
  have ht : Ev (fun k => fixed_total.f k [x, y]) (cl x + cl y) := by
    unfold fixed_total.f
    refine ⟨3, fun k hk => ?_⟩
    obtain ⟨j, rfl⟩ : ∃ j, k = j + 1 + 1 + 1 := ⟨k - 3, by omega⟩
    have e0 : wrap64 (0 + cl x) = cl x := by rw [Int.zero_add]; exact w64s (by omega) (by omega)
    have e1 : wrap64 (cl x + cl y) = cl x + cl y := w64s (by omega) (by omega)
    have e2 : wrap64 ((0 : Int) + 1) = 1 := (w64s (by omega) (by omega)).trans (by omega)
    have e3 : wrap64 ((1 : Int) + 1) = 2 := (w64s (by omega) (by omega)).trans (by omega)
    simp only [fixed_total.l0, List.length_cons, List.length_nil, Nat.zero_add, Nat.reduceAdd, clf, Option.bind_some, r0, e0, e2]
    simp only [r1, e1, e3]
    simp
  unfold fixed_add.f
  refine Ev.bind ht ?_
  simp only [clf, Option.bind_some]
  exact Ev.now _
theorem sub_in (a b : Int) : ∃ e, Ev (fun k => fixed_Sub.f k a b) e ∧ inR e ∧ (a = b → e = 0) := by
  have hb := cl_R b
  have hn : inR (-(cl b)) := by unfold inR at *; omega
  refine ⟨cl (cl a + cl (-(cl b))), ?_, cl_R _, fun h => ?_⟩
  · unfold fixed_Sub.f
    simp only [clf, Option.bind_some]
    unfold inR at hb
    rw [w64s (x := -(cl b)) (by omega) (by omega)]
    exact Ev.bind (add2 a (-(cl b))) (Ev.now _)
  · rw [cl_id hn, h, Int.add_right_neg]
    rfl
/-- The proportional part. -/
theorem prop_in (k0 k1 k2 k3 : Int) (k4 : Bool) (set now : Int) : ∃ p, Ev (fun k => pid_Proportional.f k k0 k1 k2 k3 k4 set now) p ∧ inR p ∧ (set = now → p = 0) := by
  have he : ∃ e, Ev (fun k => pid_Error.f k k0 k1 k2 k3 k4 set now) e ∧ inR e ∧ (set = now → e = 0) := by
    unfold pid_Error.f
    cases k4
    · obtain ⟨e, h, hR, hz⟩ := sub_in set now
      simp only [Bool.false_eq_true, if_false]
      exact ⟨e, Ev.bind h (Ev.now _), hR, hz⟩
    · obtain ⟨e, h, hR, hz⟩ := sub_in now set
      simp only [if_true]
      exact ⟨e, Ev.bind h (Ev.now _), hR, fun h => hz h.symm⟩
  obtain ⟨e, h, hR, hz⟩ := he
  obtain ⟨p, hp, hpR, hpz⟩ := muldiv_in k0 e
  refine ⟨p, ?_, hpR, fun h => hpz (by rw [hz h]; rfl)⟩
  unfold pid_Proportional.f fixed_Mul.f
  exact Ev.bind h (Ev.bind (Ev.bind hp (Ev.now _)) (Ev.now _))
theorem btw (a lo hi : Int) : pid_between.f a lo hi = some (decide (lo ≤ a ∧ a ≤ hi)) := by
  unfold pid_between.f
  by_cases h : lo ≤ a
  · rw [if_pos h]; exact congrArg some (decide_eq_decide.2 (by omega))
  · rw [if_neg h, decide_eq_false (by omega)]
theorem sec (a : Int) : pid_seconds.f a = some (decide (1 ≤ a ∧ a ≤ 86400)) := by
  unfold pid_seconds.f
  by_cases h : 1 ≤ a
  · rw [if_pos h]; exact congrArg some (decide_eq_decide.2 (by omega))
  · rw [if_neg h, decide_eq_false (by omega)]
theorem an1 (a : Int) : pid_analog_1.f a = some (!decide (inR a)) := by
  unfold pid_analog_1.f
  rw [btw]
  rfl
theorem an2 (a b : Int) : Ev (fun k => pid_analog.f k [a, b]) (decide (inR a ∧ inR b)) := by
  have hl : (([a, b] : List Int).length : Int) = 2 := rfl
  have r0 : rd [a, b] 0 = a := rfl
  have r1 : rd [a, b] 1 = b := rfl
  have hi : Ev (fun k => slices_IndexFunc_int64_int64_37.f k [a, b]) (if inR a then (if inR b then -1 else 1) else 0) := by
    unfold slices_IndexFunc_int64_int64_37.f
    by_cases ha : inR a
    · rw [if_pos ha]
      by_cases hb : inR b
      · rw [if_pos hb]
        refine ⟨3, fun k hk => ?_⟩
        obtain ⟨j, rfl⟩ : ∃ j, k = j + 1 + 1 + 1 := ⟨k - 3, by omega⟩
        simp [slices_IndexFunc_int64_int64_37.l0, an1, r0, r1, ha, hb, wrap64]
      · rw [if_neg hb]
        refine ⟨3, fun k hk => ?_⟩
        obtain ⟨j, rfl⟩ : ∃ j, k = j + 1 + 1 + 1 := ⟨k - 3, by omega⟩
        simp [slices_IndexFunc_int64_int64_37.l0, an1, r0, r1, ha, hb, wrap64]
    · rw [if_neg ha]
      refine ⟨3, fun k hk => ?_⟩
      obtain ⟨j, rfl⟩ : ∃ j, k = j + 1 + 1 + 1 := ⟨k - 3, by omega⟩
      simp [slices_IndexFunc_int64_int64_37.l0, an1, r0, r1, ha]
  unfold pid_analog.f slices_ContainsFunc_int64_int64_37.f
  refine Ev.bind (a := !decide (inR a ∧ inR b)) (Ev.bind hi ?_) ?_
  · have e : decide ((if inR a then (if inR b then (-1 : Int) else 1) else 0) ≥ 0) = !decide (inR a ∧ inR b) := by
      by_cases ha : inR a <;> by_cases hb : inR b <;> simp [ha, hb]
    rw [e]
    exact Ev.now _
  · rw [Bool.not_not]
    exact Ev.now _
/-- Settings that are valid. -/
def Vs (k0 k1 k2 k3 : Int) : Prop := 0 ≤ k0 ∧ k0 ≤ 1000000000000 ∧ 0 ≤ k1 ∧ k1 ≤ 86400 ∧ inR k2 ∧ inR k3 ∧ k2 ≤ k3
instance (k0 k1 k2 k3 : Int) : Decidable (Vs k0 k1 k2 k3) := inferInstanceAs (Decidable (_ ∧ _))
theorem check_ev (k0 k1 k2 k3 : Int) (k4 : Bool) : Ev (fun k => pid_Check.f k k0 k1 k2 k3 k4) (if Vs k0 k1 k2 k3 then 0 else 1) := by
  unfold pid_Check.f
  simp only [btw, Option.bind_some, decide_eq_true_eq]
  by_cases h0 : 0 ≤ k0 ∧ k0 ≤ 1000000000000
  · simp only [if_pos h0]
    by_cases h1 : 0 ≤ k1 ∧ k1 ≤ 86400
    · simp only [if_pos h1]
      refine Ev.bind (an2 k2 k3) ?_
      simp only [decide_eq_true_eq]
      by_cases h2 : inR k2 ∧ inR k3
      · simp only [if_pos h2]
        by_cases h3 : k2 > k3
        · simp only [if_pos h3]
          rw [if_neg (by simp only [Vs, inR] at *; omega)]
          exact Ev.now _
        · simp only [if_neg h3]
          rw [if_pos (by simp only [Vs, inR] at *; omega)]
          exact Ev.now _
      · simp only [if_neg h2]
        rw [if_neg (by simp only [Vs, inR] at *; omega)]
        exact Ev.now _
    · simp only [if_neg h1]
      rw [if_neg (by simp only [Vs, inR] at *; omega)]
      exact Ev.now _
  · simp only [if_neg h0]
    rw [if_neg (by simp only [Vs, inR] at *; omega)]
    exact Ev.now _
theorem possible_f (x0 : Bool) (x1 x2 : Int) : pid_possible.f x0 x1 x2 = some (decide ((-2000000000000 ≤ x1 ∧ x1 ≤ 2000000000000) ∧ -86400 ≤ x2 ∧ x2 ≤ 86400)) := by
  unfold pid_possible.f
  simp only [btw, Option.bind_some, decide_eq_true_eq]
  by_cases h : -2000000000000 ≤ x1 ∧ x1 ≤ 2000000000000
  · rw [if_pos h]; exact congrArg some (decide_eq_decide.2 (by omega))
  · rw [if_neg h, decide_eq_false (by omega)]
/-- A scan with an integral part: the parts of the state it starts from. -/
def sm (x0 : Bool) (x1 low p : Int) : Int := if x0 = true then x1 else low - p
def rs (x0 : Bool) (x2 : Int) : Int := if x0 = true then x2 else 0
def nsum (ti low high p s r dt : Int) : Int := mx (low - p) (mn (high - p) (s + Int.tdiv (p * dt + r) ti))
def nrest (ti low high p s r dt : Int) : Int := if nsum ti low high p s r dt = s + Int.tdiv (p * dt + r) ti then Int.tmod (p * dt + r) ti else 0
theorem tdiv_le {n c : Int} (hc : 0 < c) : -(n.natAbs : Int) ≤ Int.tdiv n c ∧ Int.tdiv n c ≤ n.natAbs := by
  have h := Int.natAbs_tdiv n c
  have h2 : n.natAbs.div c.natAbs ≤ n.natAbs := Nat.div_le_self _ _
  rw [← h] at h2
  omega
theorem tmod_lt {n c : Int} (hc : 0 < c) : -c < Int.tmod n c ∧ Int.tmod n c < c := ⟨Int.lt_tmod_of_pos n hc, Int.tmod_lt_of_pos n hc⟩
theorem control_ev {k0 k1 k2 k3 : Int} (k4 : Bool) {x0 : Bool} {x1 x2 set now dt p : Int} (hV : Vs k0 k1 k2 k3) (hti : k1 ≠ 0) (h1 : -2000000000000 ≤ x1 ∧ x1 ≤ 2000000000000) (h2 : -86400 ≤ x2 ∧ x2 ≤ 86400) (hd : 1 ≤ dt ∧ dt ≤ 86400)
    (hp : Ev (fun k => pid_Proportional.f k k0 k1 k2 k3 k4 set now) p) (hpR : inR p) :
    Ev (fun k => pid_Control.f k k0 k1 k2 k3 k4 x0 x1 x2 set now dt) (true, nsum k1 k2 k3 p (sm x0 x1 k2 p) (rs x0 x2) dt, nrest k1 k2 k3 p (sm x0 x1 k2 p) (rs x0 x2) dt, p + nsum k1 k2 k3 p (sm x0 x1 k2 p) (rs x0 x2) dt, 0) := by
  have hc := check_ev k0 k1 k2 k3 k4
  rw [if_pos hV] at hc
  simp only [Vs, inR] at hV hpR
  have hpd : -86400000000000000 ≤ p * dt ∧ p * dt ≤ 86400000000000000 := by
    have e1 : (-1000000000000) * dt ≤ p * dt := Int.mul_le_mul_of_nonneg_right (by omega) (by omega)
    have e2 : p * dt ≤ 1000000000000 * dt := Int.mul_le_mul_of_nonneg_right (by omega) (by omega)
    omega
  unfold pid_Control.f
  refine Ev.bind hc ?_
  simp only [if_true, possible_f, Option.bind_some, sec]
  simp only [decide_eq_true (show (-2000000000000 ≤ x1 ∧ x1 ≤ 2000000000000) ∧ -86400 ≤ x2 ∧ x2 ≤ 86400 from ⟨h1, h2⟩), decide_eq_true hd, if_true, Bool.not_true]
  refine evu ?_
  simp only [pid_Control.j0, Bool.false_eq_true, if_false]
  refine Ev.bind hp ?_
  simp only [if_neg hti, pid_limited.f, Option.bind_some]
  have hS : -2000000000000 ≤ sm x0 x1 k2 p ∧ sm x0 x1 k2 p ≤ 2000000000000 := by unfold sm; split <;> omega
  have hR : -86400 ≤ rs x0 x2 ∧ rs x0 x2 ≤ 86400 := by unfold rs; split <;> omega
  have hq := tdiv_le (n := p * dt + rs x0 x2) (c := k1) (by omega)
  have key : ∀ k : Nat, (if mx (k2 - p) (mn (k3 - p) (sm x0 x1 k2 p + Int.tdiv (p * dt + rs x0 x2) k1)) = sm x0 x1 k2 p + Int.tdiv (p * dt + rs x0 x2) k1 then some (true, mx (k2 - p) (mn (k3 - p) (sm x0 x1 k2 p + Int.tdiv (p * dt + rs x0 x2) k1)), Int.tmod (p * dt + rs x0 x2) k1, wrap64 (p + mx (k2 - p) (mn (k3 - p) (sm x0 x1 k2 p + Int.tdiv (p * dt + rs x0 x2) k1))), (0 : Int)) else some (true, mx (k2 - p) (mn (k3 - p) (sm x0 x1 k2 p + Int.tdiv (p * dt + rs x0 x2) k1)), 0, wrap64 (p + mx (k2 - p) (mn (k3 - p) (sm x0 x1 k2 p + Int.tdiv (p * dt + rs x0 x2) k1))), 0)) = some (true, nsum k1 k2 k3 p (sm x0 x1 k2 p) (rs x0 x2) dt, nrest k1 k2 k3 p (sm x0 x1 k2 p) (rs x0 x2) dt, p + nsum k1 k2 k3 p (sm x0 x1 k2 p) (rs x0 x2) dt, 0) := fun k => by
    have hn : k2 - p ≤ nsum k1 k2 k3 p (sm x0 x1 k2 p) (rs x0 x2) dt ∧ nsum k1 k2 k3 p (sm x0 x1 k2 p) (rs x0 x2) dt ≤ k3 - p := by
      unfold nsum
      generalize sm x0 x1 k2 p + Int.tdiv (p * dt + rs x0 x2) k1 = z
      unfold mx mn
      repeat (first | omega | split)
    show (if nsum k1 k2 k3 p (sm x0 x1 k2 p) (rs x0 x2) dt = _ then some (true, nsum k1 k2 k3 p (sm x0 x1 k2 p) (rs x0 x2) dt, _, wrap64 (p + nsum k1 k2 k3 p (sm x0 x1 k2 p) (rs x0 x2) dt), (0 : Int)) else some (true, nsum k1 k2 k3 p (sm x0 x1 k2 p) (rs x0 x2) dt, 0, wrap64 (p + nsum k1 k2 k3 p (sm x0 x1 k2 p) (rs x0 x2) dt), 0)) = _
    rw [w64s (x := p + nsum k1 k2 k3 p (sm x0 x1 k2 p) (rs x0 x2) dt) (by omega) (by omega)]
    unfold nrest
    split <;> rfl
  cases x0
  · simp only [Bool.false_eq_true, if_false]
    have e1 : sm false x1 k2 p = k2 - p := rfl
    have e2 : rs false x2 = 0 := rfl
    rw [e2, Int.add_zero] at hq
    simp only [e1, e2, Int.add_zero] at key
    rw [w64s (x := p * dt) (by omega) (by omega), w64s (x := p * dt) (by omega) (by omega), w64s (x := k2 - p) (by omega) (by omega), w64s (x := k3 - p) (by omega) (by omega), w64s (x := Int.tdiv (p * dt) k1) (by omega) (by omega), w64s (x := k2 - p + Int.tdiv (p * dt) k1) (by omega) (by omega)]
    rw [e1, e2]
    exact Ev.congr key (Ev.now _)
  · simp only [if_true]
    have e1 : sm true x1 k2 p = x1 := rfl
    have e2 : rs true x2 = x2 := rfl
    rw [e2] at hq
    simp only [e1, e2] at key
    rw [w64s (x := p * dt) (by omega) (by omega), w64s (x := p * dt + x2) (by omega) (by omega), w64s (x := k2 - p) (by omega) (by omega), w64s (x := k3 - p) (by omega) (by omega), w64s (x := Int.tdiv (p * dt + x2) k1) (by omega) (by omega), w64s (x := x1 + Int.tdiv (p * dt + x2) k1) (by omega) (by omega)]
    rw [e1, e2]
    exact Ev.congr key (Ev.now _)
/-- Settings or a time that are not possible. -/
theorem control_no {k0 k1 k2 k3 : Int} (k4 : Bool) {x0 : Bool} {x1 x2 set now dt : Int} (h : ¬ (Vs k0 k1 k2 k3 ∧ ((-2000000000000 ≤ x1 ∧ x1 ≤ 2000000000000) ∧ -86400 ≤ x2 ∧ x2 ≤ 86400) ∧ 1 ≤ dt ∧ dt ≤ 86400)) :
    Ev (fun k => pid_Control.f k k0 k1 k2 k3 k4 x0 x1 x2 set now dt) (false, 0, 0, 0, 1) := by
  have ht : Ev (fun k => pid_Control.j0 k set now dt true k0 k1 k2 k3 k4 x0 x1 x2) (false, 0, 0, 0, 1) := evs (f := fun k => some _) (fun k => rfl) (Ev.now _)
  unfold pid_Control.f
  refine Ev.bind (check_ev k0 k1 k2 k3 k4) ?_
  by_cases hV : Vs k0 k1 k2 k3
  · simp only [if_pos hV, if_true, possible_f, Option.bind_some, sec, decide_eq_true_eq]
    by_cases h2 : (-2000000000000 ≤ x1 ∧ x1 ≤ 2000000000000) ∧ -86400 ≤ x2 ∧ x2 ≤ 86400
    · simp only [if_pos h2]
      rw [decide_eq_false (show ¬ (1 ≤ dt ∧ dt ≤ 86400) from fun h3 => h ⟨hV, h2, h3⟩)]
      exact ht
    · simp only [if_neg h2]
      exact ht
  · simp only [if_neg hV, show ¬ ((1 : Int) = 0) by omega, if_false]
    exact ht
end Go.Proofs.YteigdhpchkkloaaDoor.Pure
