-- What the reference tells: the check, the moved curve, the products, the simplified curve, the area.
import Derived.Test.YtacheoimnckghaaSimp
import Derived.Test.YtacheoimnckghaaPTx16
import Derived.Test.YtacheoimnckghaaPTx17
import Derived.Test.YtacheoimnckghaaPTx18
import Derived.Test.YtacheoimnckghaaPTx19
import Derived.Test.YtacheoimnckghaaPTx20
namespace Go.Proofs.Ytacheoimnckghaa.Pure
open Go.RowKit Go.Proofs.Ytacheoimnckghaa.PT Go.Proofs.YtacheoimnckghaaW.PrintWords Go.Proofs.YtacheoimnckghaaW.PrintLast Go.Proofs.YtacheoimnckghaaW.PrintMore
set_option linter.unusedVariables false
set_option linter.unusedSimpArgs false
theorem ev_det {α : Type} {g : Nat → Option α} {r q : α} (h : Ev g r) (h' : Ev g q) : r = q := by
  obtain ⟨K, hK⟩ := h
  obtain ⟨K', hK'⟩ := h'
  have h1 := hK (K + K') (by omega)
  have h2 := hK' (K + K') (by omega)
  rw [h1] at h2
  exact Option.some.inj h2
theorem rinside_of (n : Int) : plenumref03_inside.f n = some (decide (-1000000000000 ≤ n ∧ n ≤ 1000000000000)) := by
  unfold plenumref03_inside.f
  split
  · rename_i h
    exact congrArg some (decide_eq_decide.2 ⟨fun h' => ⟨h, h'⟩, fun h' => h'.2⟩)
  · rename_i h
    exact congrArg some (decide_eq_false (fun h' => h h'.1)).symm
open Classical in
theorem rdup_ev (c : List S50) (hc : c.length ≤ 1000) : ∀ (n i : Nat), i + 1 + n = c.length → Ev (fun k => plenumref03_Check.l1 k c ((i + 1 : Nat) : Int)) (if ∃ j, i ≤ j ∧ j + 1 < c.length ∧ (kn c (j + 1)).f0 ≤ (kn c j).f0 then 5 else 0)
  | 0, i, hi => by
    rw [if_neg (by rintro ⟨j, h1, h2, _⟩; omega)]
    refine evs (f := fun k => some 0) (fun k => ?_) (Ev.now _)
    simp only [plenumref03_Check.l1]
    rw [if_neg (by omega)]
  | n + 1, i, hi => by
    have hw : wrap64 (((i + 1 : Nat) : Int) - 1) = (i : Int) := by rw [w64s (by omega) (by omega)]; omega
    by_cases hd : (kn c i).f0 ≥ (kn c (i + 1)).f0
    · rw [if_pos ⟨i, by omega, by omega, hd⟩]
      refine evs (f := fun k => some 5) (fun k => ?_) (Ev.now _)
      simp only [plenumref03_Check.l1]
      rw [if_pos (by omega), hw, if_pos (by omega), if_pos (by omega), if_pos (by omega), rd_kn, rd_kn, if_pos hd]
    · have ih := rdup_ev c hc n (i + 1) (by omega)
      have e : (∃ j, i + 1 ≤ j ∧ j + 1 < c.length ∧ (kn c (j + 1)).f0 ≤ (kn c j).f0) ↔ (∃ j, i ≤ j ∧ j + 1 < c.length ∧ (kn c (j + 1)).f0 ≤ (kn c j).f0) := by
        constructor
        · rintro ⟨j, h1, h2, h3⟩; exact ⟨j, by omega, h2, h3⟩
        · rintro ⟨j, h1, h2, h3⟩
          rcases Nat.eq_or_lt_of_le h1 with h | h
          · subst h; omega
          · exact ⟨j, h, h2, h3⟩
      rw [ifc e] at ih
      refine evs (fun k => ?_) ih
      simp only [plenumref03_Check.l1]
      rw [if_pos (by omega), hw, if_pos (by omega), if_pos (by omega), if_pos (by omega), rd_kn, rd_kn, if_neg hd, w64s (by omega) (by omega)]
      rfl
open Classical in
theorem rbad_ev (c : List S50) (hc : c.length ≤ 1000) (r : Int) (hr : Ev (fun k => plenumref03_Check.l1 k c 1) r) : ∀ (n i : Nat), i + n = c.length → Ev (fun k => plenumref03_Check.l0 k c (i : Int)) (if ∃ j, i ≤ j ∧ j < c.length ∧ ¬ okI (kn c j) then 6 else r)
  | 0, i, hi => by
    rw [if_neg (by rintro ⟨j, h1, h2, _⟩; omega)]
    refine evs (fun k => ?_) hr
    simp only [plenumref03_Check.l0]
    rw [if_neg (by omega)]
  | n + 1, i, hi => by
    have hin : okI (kn c i) ↔ (-1000000000000 ≤ (kn c i).f0 ∧ (kn c i).f0 ≤ 1000000000000) ∧ (-1000000000000 ≤ (kn c i).f1 ∧ (kn c i).f1 ≤ 1000000000000) := ⟨fun ⟨a, b, c, d⟩ => ⟨⟨a, b⟩, c, d⟩, fun ⟨⟨a, b⟩, c, d⟩ => ⟨a, b, c, d⟩⟩
    have step : ∀ k, plenumref03_Check.l0 (k + 1) c (i : Int) = if okI (kn c i) then plenumref03_Check.l0 k c ((i + 1 : Nat) : Int) else some 6 := fun k => by
      simp only [plenumref03_Check.l0]
      rw [if_pos (by omega), if_pos (by omega), rd_kn, rinside_of, rinside_of]
      simp only [Option.bind_some]
      rw [w64s (by omega) (by omega)]
      by_cases h0 : -1000000000000 ≤ (kn c i).f0 ∧ (kn c i).f0 ≤ 1000000000000
      · rw [if_pos (decide_eq_true h0)]
        by_cases h1 : -1000000000000 ≤ (kn c i).f1 ∧ (kn c i).f1 ≤ 1000000000000
        · rw [if_pos (decide_eq_true h1), if_pos (hin.2 ⟨h0, h1⟩)]
          rfl
        · rw [if_neg (by simpa using h1), if_neg (fun h => h1 (hin.1 h).2)]
      · rw [if_neg (by simpa using h0), if_neg (fun h => h0 (hin.1 h).1)]
    refine evs step ?_
    by_cases h : okI (kn c i)
    · simp only [h, if_true]
      have ih := rbad_ev c hc r hr n (i + 1) (by omega)
      have e : (∃ j, i + 1 ≤ j ∧ j < c.length ∧ ¬ okI (kn c j)) ↔ (∃ j, i ≤ j ∧ j < c.length ∧ ¬ okI (kn c j)) := by
        constructor
        · rintro ⟨j, h1, h2, h3⟩; exact ⟨j, by omega, h2, h3⟩
        · rintro ⟨j, h1, h2, h3⟩
          rcases Nat.eq_or_lt_of_le h1 with h' | h'
          · subst h'; exact absurd h h3
          · exact ⟨j, h', h2, h3⟩
      rwa [ifc e] at ih
    · simp only [h, if_false]
      rw [if_pos ⟨i, Nat.le_refl _, by omega, h⟩]
      exact Ev.now _
open Classical in
theorem rcheck_ev (c : List S50) : Ev (fun k => plenumref03_Check.f k c) (chk c) := by
  have hf : ∀ k, plenumref03_Check.f k c = plenumref03_Check.j0 k c (decide (c.length = 0 ∨ 32 < c.length)) := fun k => by
    unfold plenumref03_Check.f
    by_cases h : c.length = 0
    · rw [if_pos (by omega), decide_eq_true (.inl h)]
    · rw [if_neg (by omega)]
      exact congrArg _ (decide_eq_decide.2 (by omega))
  refine Ev.congr hf ?_
  unfold chk
  by_cases h1 : c.length = 0 ∨ 32 < c.length
  · rw [if_pos h1, decide_eq_true h1]
    refine evs (f := fun k => some 1) (fun k => ?_) (Ev.now _)
    simp only [plenumref03_Check.j0]
    rw [if_pos trivial]
  · rw [if_neg h1, decide_eq_false h1]
    have hd := rdup_ev c (by omega) (c.length - 1) 0 (by omega)
    have hb := rbad_ev c (by omega) _ hd c.length 0 (by omega)
    have e : (∃ j, 0 ≤ j ∧ j + 1 < c.length ∧ (kn c (j + 1)).f0 ≤ (kn c j).f0) ↔ (∃ j, j + 1 < c.length ∧ (kn c (j + 1)).f0 ≤ (kn c j).f0) := ⟨fun ⟨j, _, h⟩ => ⟨j, h⟩, fun ⟨j, h⟩ => ⟨j, Nat.zero_le _, h⟩⟩
    have e2 : (∃ j, 0 ≤ j ∧ j < c.length ∧ ¬ okI (kn c j)) ↔ (∃ j, j < c.length ∧ ¬ okI (kn c j)) := ⟨fun ⟨j, _, h⟩ => ⟨j, h⟩, fun ⟨j, h⟩ => ⟨j, Nat.zero_le _, h⟩⟩
    have key : Ev (fun k => plenumref03_Check.l0 k c 0) (if ∃ j, j < c.length ∧ ¬ okI (kn c j) then 6 else if ∃ j, j + 1 < c.length ∧ (kn c (j + 1)).f0 ≤ (kn c j).f0 then 5 else 0) := by
      by_cases hx : ∃ j, j < c.length ∧ ¬ okI (kn c j)
      · rw [if_pos hx]
        rw [if_pos (e2.2 hx)] at hb
        exact hb
      · rw [if_neg hx]
        rw [if_neg (fun h => hx (e2.1 h))] at hb
        by_cases hy : ∃ j, j + 1 < c.length ∧ (kn c (j + 1)).f0 ≤ (kn c j).f0
        · rw [if_pos hy]
          rw [if_pos (e.2 hy)] at hb
          exact hb
        · rw [if_neg hy]
          rw [if_neg (fun h => hy (e.1 h))] at hb
          exact hb
    have key2 : Ev (fun k => plenumref03_Check.j0 k c false) (if ∃ j, j < c.length ∧ ¬ okI (kn c j) then 6 else if ∃ j, j + 1 < c.length ∧ (kn c (j + 1)).f0 ≤ (kn c j).f0 then 5 else 0) := by
      refine evs (fun k => ?_) key
      simp only [plenumref03_Check.j0]
      rw [if_neg (by decide)]
    by_cases hx : ∃ j, j < c.length ∧ ¬ okI (kn c j)
    · rw [if_pos hx] at key2 ⊢
      exact key2
    · rw [if_neg hx] at key2 ⊢
      exact key2

/-! ### the moved curve -/
theorem rshift_loop (c : List S50) (dx dy : Int) (hx : -2000000000000 ≤ dx ∧ dx ≤ 2000000000000) (hy : -2000000000000 ≤ dy ∧ dy ≤ 2000000000000) (hc : c.length ≤ 1000) :
    ∀ (B A : List S50), A ++ B = c → (∀ b ∈ B, okI b) → Ev (fun k => plenumref03_Shift.l0 k c dx dy (A.map (sh dx dy)) (A.length : Int)) (if ∀ b ∈ B, okI (sh dx dy b) then (c.map (sh dx dy), 0) else ([], 6))
  | [], A, hAB, _ => by
    have hA : A = c := by simpa using hAB
    subst hA
    refine evs (f := fun k => some (A.map (sh dx dy), 0)) (fun k => ?_) ?_
    · simp only [plenumref03_Shift.l0]
      rw [if_neg (by omega)]
    · simp
      exact Ev.now _
  | b :: B, A, hAB, hok => by
    have hlen : c.length = A.length + 1 + B.length := by rw [← hAB]; simp; omega
    have hkb : kn c A.length = b := by rw [← hAB]; exact kn_app A b B
    obtain ⟨b0, b1, b2, b3⟩ := hok b (by simp)
    have step : ∀ k, plenumref03_Shift.l0 (k + 1) c dx dy (A.map (sh dx dy)) (A.length : Int) = if okI (sh dx dy b) then plenumref03_Shift.l0 k c dx dy ((A ++ [b]).map (sh dx dy)) ((A ++ [b]).length : Int) else some ([], 6) := fun k => by
      simp only [plenumref03_Shift.l0]
      rw [if_pos (by omega), if_pos (by omega), rd_kn, hkb, rinside_of, rinside_of, w64s (x := b.f0 + dx) (by omega) (by omega), w64s (x := b.f1 + dy) (by omega) (by omega)]
      simp only [Option.bind_some]
      rw [w64s (x := (A.length : Int) + 1) (by omega) (by omega), if_pos (show (A.map (sh dx dy)).length < 8796093022208 by simp; omega)]
      by_cases h0 : -1000000000000 ≤ b.f0 + dx ∧ b.f0 + dx ≤ 1000000000000
      · by_cases h1 : -1000000000000 ≤ b.f1 + dy ∧ b.f1 + dy ≤ 1000000000000
        · rw [if_pos (decide_eq_true h0), if_pos (decide_eq_true h1), if_pos (show okI (sh dx dy b) from ⟨h0.1, h0.2, h1.1, h1.2⟩)]
          simp [sh]
        · rw [if_pos (decide_eq_true h0), if_neg (by simpa using h1), if_neg (fun h => h1 ⟨h.2.2.1, h.2.2.2⟩)]
      · rw [if_neg (by simpa using h0), if_neg (fun h => h0 ⟨h.1, h.2.1⟩)]
    refine evs step ?_
    by_cases h : okI (sh dx dy b)
    · simp only [h, if_true]
      have ih := rshift_loop c dx dy hx hy hc B (A ++ [b]) (by rw [← hAB]; simp) (fun x hx => hok x (by simp [hx]))
      have : (∀ x ∈ b :: B, okI (sh dx dy x)) ↔ ∀ x ∈ B, okI (sh dx dy x) := by simp [h]
      rw [ifc this]
      exact ih
    · simp only [h, if_false]
      rw [if_neg (fun hh => h (hh b (by simp)))]
      exact Ev.now _
theorem rshift_good {c : List S50} (g : Good c) (dx dy : Int) : Ev (fun k => plenumref03_Shift.f k c dx dy) (if ∀ b ∈ c, okI (sh (cl dx) (cl dy) b) then (c.map (sh (cl dx) (cl dy)), 0) else ([], 6)) := by
  have hc := rcheck_ev c
  rw [(chk_good c).2 g] at hc
  have hle := g.le
  unfold plenumref03_Shift.f
  refine Ev.bind hc ?_
  simp only [if_true]
  by_cases hr : (-2000000000000 ≤ dx ∧ dx ≤ 2000000000000) ∧ (-2000000000000 ≤ dy ∧ dy ≤ 2000000000000)
  · obtain ⟨hx, hy⟩ := hr
    have hl := rshift_loop c dx dy hx hy (by omega) c [] rfl g.all
    rw [cl_small hx.1 hx.2, cl_small hy.1 hy.2]
    refine Ev.congr (f := fun k => plenumref03_Shift.j0 k c dx dy false) (fun k => ?_) (evs (fun k => ?_) hl)
    · rw [if_neg (by omega), if_neg (by omega), if_neg (by omega), decide_eq_false (by omega)]
    · simp only [plenumref03_Shift.j0]
      rw [if_neg (by decide)]
      rfl
  · have hbad : ¬ ∀ b ∈ c, okI (sh (cl dx) (cl dy) b) := fun h => by
      have := shift_small g h
      omega
    rw [if_neg hbad]
    refine Ev.congr (f := fun k => plenumref03_Shift.j0 k c dx dy true) (fun k => ?_) (evs (f := fun k => some _) (fun k => by simp [plenumref03_Shift.j0]) (Ev.now _))
    by_cases h1 : dx < -2000000000000
    · rw [if_pos h1]
    · rw [if_neg h1]
      by_cases h2 : dx > 2000000000000
      · rw [if_pos h2]
      · rw [if_neg h2]
        by_cases h3 : dy < -2000000000000
        · rw [if_pos h3]
        · rw [if_neg h3, decide_eq_true (show dy > 2000000000000 by omega)]
theorem rshift_bad {c : List S50} (g : ¬ Good c) (dx dy : Int) : Ev (fun k => plenumref03_Shift.f k c dx dy) ([], chk c) := by
  unfold plenumref03_Shift.f
  refine Ev.bind (rcheck_ev c) ?_
  simp only [chk_ne g, if_false]
  exact Ev.now _

/-! ### products and the area -/
theorem rfloor_of {a b : Int} (h0 : -9223372036854775807 < a) (h1 : a < 9223372036854775807) (hb0 : 1 < b) (hb1 : b < 4611686018427387904) : plenumref03_floor.f a b = some (a / b, a % b) := by
  have e := Int.mul_ediv_add_emod a b
  have r0 := Int.emod_nonneg a (show b ≠ 0 by omega)
  have r1 := Int.emod_lt_of_pos a (show 0 < b by omega)
  have e' := Int.mul_tdiv_add_tmod a b
  have q0 : -9223372036854775807 < a / b := by
    rcases Int.lt_or_le (a / b) 0 with h | h
    · have := Int.le_ediv_of_mul_le (a := -9223372036854775806) (b := a) (c := b) (by omega) (by omega)
      omega
    · omega
  have q1 : a / b < 9223372036854775807 := by
    have := (Int.ediv_lt_iff_lt_mul (a := a) (b := 9223372036854775807) (c := b) (by omega)).2 (by omega)
    exact this
  unfold plenumref03_floor.f
  rw [if_neg (by omega)]
  by_cases hn : 0 ≤ a
  · rw [Int.tmod_eq_emod_of_nonneg hn, Int.tdiv_eq_ediv_of_nonneg hn, if_neg (by omega), w64s (by omega) (by omega)]
  · have t : Int.tmod a b = -((-a) % b) := by
      rw [← Int.tmod_eq_emod_of_nonneg (show 0 ≤ -a by omega), Int.neg_tmod, Int.neg_neg]
    have t2 : Int.tdiv a b = -((-a) / b) := by
      rw [← Int.tdiv_eq_ediv_of_nonneg (show 0 ≤ -a by omega), Int.neg_tdiv, Int.neg_neg]
    have n0 := Int.emod_nonneg (-a) (show b ≠ 0 by omega)
    have n1 := Int.emod_lt_of_pos (-a) (show 0 < b by omega)
    have ne := Int.mul_ediv_add_emod (-a) b
    by_cases hz : (-a) % b = 0
    · have hu := (Int.ediv_emod_unique (a := a) (b := b) (r := 0) (q := -((-a) / b)) (by omega)).2 ⟨by rw [Int.mul_neg]; omega, by omega, by omega⟩
      rw [t, hz, if_neg (by omega), t2, hu.1, hu.2, w64s (by omega) (by omega)]
      rfl
    · have hu := (Int.ediv_emod_unique (a := a) (b := b) (r := b - (-a) % b) (q := -((-a) / b) - 1) (by omega)).2 ⟨by rw [Int.mul_sub, Int.mul_neg]; omega, by omega, by omega⟩
      rw [t, if_pos (by omega), t2, hu.1, hu.2]
      rw [hu.1] at q0 q1
      rw [w64s (x := -(-a / b)) (by omega) (by omega), w64s (x := -(-a / b) - 1) (by omega) (by omega), w64s (by omega) (by omega)]
      exact congrArg some (Prod.ext rfl (by show _ = _; simp only []; omega))
theorem raddWide_of {q r s t N M : Int} (h1 : q * 1000000000000 + r = N) (r0 : 0 ≤ r) (r1 : r < 1000000000000) (h2 : s * 1000000000000 + t = M) (t0 : 0 ≤ t) (t1 : t < 1000000000000)
    (b1 : -1000000000000000000 ≤ q ∧ q ≤ 1000000000000000000) (b2 : -1000000000000000000 ≤ s ∧ s ≤ 1000000000000000000) : plenumref03_AddWide.f q r s t = some ((N + M) / 1000000000000, (N + M) % 1000000000000) := by
  unfold plenumref03_AddWide.f
  rw [w64s (x := r + t) (by omega) (by omega), w64s (x := q + s) (by omega) (by omega)]
  split
  · rw [w64s (by omega) (by omega), w64s (by omega) (by omega)]
    exact congrArg some (Prod.ext (by show _ = _; simp only []; omega) (by show _ = _; simp only []; omega))
  · exact congrArg some (Prod.ext (by show _ = _; simp only []; omega) (by show _ = _; simp only []; omega))
theorem rproduct_of {a b : Int} (a0 : 0 ≤ a) (a1 : a ≤ 2000000000000) (b0 : -2000000000000 ≤ b) (b1 : b ≤ 2000000000000) : plenumref03_Product.f a b = some (a * b / 1000000000000, a * b % 1000000000000) := by
  have hq : Int.tdiv a 1000000 = a / 1000000 := Int.tdiv_eq_ediv_of_nonneg a0
  have hm : Int.tmod a 1000000 = a % 1000000 := Int.tmod_eq_emod_of_nonneg a0
  have p1 : -4000000000000000000 ≤ a / 1000000 * b ∧ a / 1000000 * b ≤ 4000000000000000000 := by
    have h1 : a / 1000000 * b ≤ a / 1000000 * 2000000000000 := Int.mul_le_mul_of_nonneg_left b1 (by omega)
    have h2 : a / 1000000 * (-2000000000000) ≤ a / 1000000 * b := Int.mul_le_mul_of_nonneg_left b0 (by omega)
    omega
  have p2 : -2000000000000000000 ≤ a % 1000000 * b ∧ a % 1000000 * b ≤ 2000000000000000000 := by
    have h1 : a % 1000000 * b ≤ a % 1000000 * 2000000000000 := Int.mul_le_mul_of_nonneg_left b1 (by omega)
    have h2 : a % 1000000 * (-2000000000000) ≤ a % 1000000 * b := Int.mul_le_mul_of_nonneg_left b0 (by omega)
    omega
  have hab : a * b = a / 1000000 * b * 1000000 + a % 1000000 * b := by
    have : a = a / 1000000 * 1000000 + a % 1000000 := by omega
    generalize a / 1000000 = x at *
    generalize a % 1000000 = y at *
    subst this
    grind
  unfold plenumref03_Product.f
  rw [hq, hm, w64s (x := a / 1000000) (by omega) (by omega)]
  rw [hab]
  generalize a / 1000000 * b = P at *
  generalize a % 1000000 * b = Q at *
  rw [w64s (x := P) (by omega) (by omega), w64s (x := Q) (by omega) (by omega), rfloor_of (by omega) (by omega) (by decide) (by decide)]
  simp only [Option.bind_some]
  rw [rfloor_of (by omega) (by omega) (by decide) (by decide)]
  simp only [Option.bind_some]
  rw [w64s (by omega) (by omega), raddWide_of (N := P * 1000000) (M := Q) (by omega) (by omega) (by omega) (by omega) (by omega) (by omega) (by omega) (by omega)]
  rfl
theorem sum_split (c : List S50) : ∀ n, sumTo (ap c) n = sumTo (aq c) n * 1000000000000 + sumTo (ar c) n
  | 0 => rfl
  | n + 1 => by
    have ih := sum_split c n
    simp only [sumTo]
    rw [ih]
    unfold aq ar
    omega
theorem rarea_loop {c : List S50} (g : Good c) : ∀ (n i : Nat), i + 1 + n = c.length → Ev (fun k => plenumref03_Area.l0 k c ((i + 1 : Nat) : Int) (sumTo (ap c) i / 1000000000000) (sumTo (ap c) i % 1000000000000)) (sumTo (ap c) (c.length - 1) / 1000000000000, sumTo (ap c) (c.length - 1) % 1000000000000)
  | 0, i, hi => by
    have e : c.length - 1 = i := by omega
    rw [e]
    refine evs (f := fun k => some _) (fun k => ?_) (Ev.now _)
    simp only [plenumref03_Area.l0]
    rw [if_neg (by omega)]
  | n + 1, i, hi => by
    have hle := g.le
    have hw : wrap64 (((i + 1 : Nat) : Int) - 1) = (i : Int) := by rw [w64s (by omega) (by omega)]; omega
    have hw2 : wrap64 (((i + 1 : Nat) : Int) + 1) = ((i + 1 + 1 : Nat) : Int) := by rw [w64s (by omega) (by omega)]; omega
    obtain ⟨a0, a1, a2, a3⟩ := g.ok i (by omega)
    obtain ⟨b0, b1, b2, b3⟩ := g.ok (i + 1) (by omega)
    have hab := g.inc i (by omega)
    have hp := rproduct_of (a := (kn c (i + 1)).f0 - (kn c i).f0) (b := (kn c i).f1 + (kn c (i + 1)).f1) (by omega) (by omega) (by omega) (by omega)
    have hbd := aq_bound g i (by omega)
    have hs := sumTo_bound (f := aq c) (a := -4000000000000) (b := 4000000000000) i (fun j hj => aq_bound g j (by omega))
    have hs2 := sumTo_bound (f := ar c) (a := 0) (b := 1000000000000) i (fun j hj => by unfold ar; omega)
    have hsp := sum_split c i
    have hadd := raddWide_of (q := sumTo (ap c) i / 1000000000000) (r := sumTo (ap c) i % 1000000000000) (s := ap c i / 1000000000000) (t := ap c i % 1000000000000) (N := sumTo (ap c) i) (M := ap c i) (by omega) (by omega) (by omega) (by omega) (by omega) (by omega) (by omega) (by unfold aq at hbd; omega)
    refine evs (fun k => ?_) (rarea_loop g n (i + 1) (by omega))
    simp only [plenumref03_Area.l0]
    rw [if_pos (by omega), if_pos (by omega), hw, if_pos (by omega), if_pos (by omega), rd_kn, rd_kn, hw2, w64s (x := (kn c (i + 1)).f0 - (kn c i).f0) (by omega) (by omega), w64s (x := (kn c i).f1 + (kn c (i + 1)).f1) (by omega) (by omega), hp]
    simp only [Option.bind_some]
    have : plenumref03_AddWide.f (sumTo (ap c) i / 1000000000000) (sumTo (ap c) i % 1000000000000) (((kn c (i + 1)).f0 - (kn c i).f0) * ((kn c i).f1 + (kn c (i + 1)).f1) / 1000000000000) (((kn c (i + 1)).f0 - (kn c i).f0) * ((kn c i).f1 + (kn c (i + 1)).f1) % 1000000000000) = some ((sumTo (ap c) i + ap c i) / 1000000000000, (sumTo (ap c) i + ap c i) % 1000000000000) := hadd
    rw [this]
    rfl
theorem rarea_good {c : List S50} (g : Good c) : Ev (fun k => plenumref03_Area.f k c) ((area c).1, (area c).2.1) := by
  have hpos := g.pos
  have h := rarea_loop g (c.length - 1) 0 (by omega)
  have hsp := sum_split c (c.length - 1)
  have e : (sumTo (ap c) (c.length - 1) / 1000000000000, sumTo (ap c) (c.length - 1) % 1000000000000) = ((area c).1, (area c).2.1) := by
    unfold area
    refine Prod.ext ?_ ?_
    · show _ = _
      simp only []
      omega
    · show _ = _
      simp only []
      omega
  rw [e] at h
  exact h

/-! ### the simplified curve -/
theorem useless_of {c : List S50} (g : Good c) (i : Nat) (hi : i < c.length) : ∃ b, plenumref03_Useless.f c (i : Int) = some b ∧ (b = true ↔ Idle c i) := by
  have hle := g.le
  have hw1 : wrap64 ((c.length : Int) - 1) = ((c.length - 1 : Nat) : Int) := by rw [w64s (by omega) (by omega)]; omega
  have h00 : rd_T50 c 0 = kn c 0 := rd_kn c 0
  have h01 : rd_T50 c 1 = kn c 1 := rd_kn c 1
  unfold Idle plenumref03_Useless.f
  by_cases h1 : c.length = 1
  · refine ⟨false, by rw [if_pos (by omega)], ⟨fun h => absurd h (by decide), fun h => absurd h1 h.1⟩⟩
  · rw [if_neg (by omega)]
    by_cases h0 : i = 0
    · subst h0
      refine ⟨(kn c 0).f1 == (kn c 1).f1, by rw [if_pos (by omega), if_pos (by omega), if_pos (by omega), h00, h01], ?_⟩
      rw [beq_iff_eq]
      exact ⟨fun h => ⟨h1, fun _ => h, fun h => absurd rfl h, fun h => absurd rfl h⟩, fun h => h.2.1 rfl⟩
    · have hwi : wrap64 ((i : Int) - 1) = ((i - 1 : Nat) : Int) := by rw [w64s (by omega) (by omega)]; omega
      have hwi2 : wrap64 ((i : Int) + 1) = ((i + 1 : Nat) : Int) := by rw [w64s (by omega) (by omega)]; omega
      by_cases hL : i + 1 = c.length
      · refine ⟨(kn c i).f1 == (kn c (i - 1)).f1, ?_, ?_⟩
        · rw [if_neg (by omega), hw1, if_pos (by omega), if_pos (by omega), if_pos (by omega), hwi, if_pos (by omega), if_pos (by omega), rd_kn, rd_kn]
        · rw [beq_iff_eq]
          exact ⟨fun h => ⟨h1, fun e => absurd e h0, fun _ _ => h, fun _ e => absurd hL e⟩, fun h => h.2.2.1 h0 hL⟩
      · have hab := g.inc (i - 1) (by omega)
        rw [show i - 1 + 1 = i by omega] at hab
        have hbc := g.inc i (by omega)
        obtain ⟨a0, a1, a2, a3⟩ := g.ok (i - 1) (by omega)
        obtain ⟨b0, b1, b2, b3⟩ := g.ok i hi
        obtain ⟨c0, c1, c2, c3⟩ := g.ok (i + 1) (by omega)
        have p1 := rproduct_of (a := (kn c i).f0 - (kn c (i - 1)).f0) (b := (kn c (i + 1)).f1 - (kn c i).f1) (by omega) (by omega) (by omega) (by omega)
        have p2 := rproduct_of (a := (kn c (i + 1)).f0 - (kn c i).f0) (b := (kn c i).f1 - (kn c (i - 1)).f1) (by omega) (by omega) (by omega) (by omega)
        refine ⟨_, by rw [if_neg (by omega), hw1, if_neg (by omega), hwi, if_pos (by omega), if_pos (by omega), if_pos (by omega), if_pos (by omega), hwi2, if_pos (by omega), if_pos (by omega), rd_kn, rd_kn, rd_kn, w64s (x := (kn c i).f0 - (kn c (i - 1)).f0) (by omega) (by omega), w64s (x := (kn c (i + 1)).f1 - (kn c i).f1) (by omega) (by omega), w64s (x := (kn c (i + 1)).f0 - (kn c i).f0) (by omega) (by omega), w64s (x := (kn c i).f1 - (kn c (i - 1)).f1) (by omega) (by omega), p1]; simp only [Option.bind_some]; rw [p2]; simp only [Option.bind_some]; rfl, ?_⟩
        have hst : St (kn c (i - 1)) (kn c i) (kn c (i + 1)) ↔ ((kn c i).f0 - (kn c (i - 1)).f0) * ((kn c (i + 1)).f1 - (kn c i).f1) = ((kn c (i + 1)).f0 - (kn c i).f0) * ((kn c i).f1 - (kn c (i - 1)).f1) := by
          unfold St
          rw [Int.mul_comm ((kn c i).f0 - (kn c (i - 1)).f0), Int.mul_comm ((kn c (i + 1)).f0 - (kn c i).f0)]
          exact eq_comm
        rw [Bool.and_eq_true, beq_iff_eq, beq_iff_eq]
        have hdm : ∀ P Q : Int, (P / 1000000000000 = Q / 1000000000000 ∧ P % 1000000000000 = Q % 1000000000000) ↔ P = Q := fun P Q => ⟨fun h => by omega, fun h => by rw [h]; exact ⟨rfl, rfl⟩⟩
        rw [hdm, ← hst]
        exact ⟨fun h => ⟨h1, fun e => absurd e h0, fun _ e => absurd e hL, fun _ _ => h⟩, fun h => h.2.2.2 h0 hL⟩
theorem ref_loop : ∀ (n : Nat) (c : List S50) (i : Nat), Good c → i ≤ c.length → c.length * 40 + (c.length - i) ≤ n → (∀ t, t < i → ¬ Idle c t) → ∃ s, Ev (fun k => curve_Simplify.l0 k c (i : Int)) (s, 0) ∧ Ev (fun k => plenumref03_Simplify.l0 k c (i : Int)) s := by
  intro n
  induction n with
  | zero =>
    intro c i g hi hn _
    have := g.pos
    omega
  | succ n ih =>
    intro c i g hi hn hno
    have hle := g.le
    by_cases hlt : i < c.length
    · obtain ⟨bo, hev, hbo⟩ := idle_ev g i hlt
      obtain ⟨bu, hu, hbu⟩ := useless_of g i hlt
      by_cases hd : Idle c i
      · obtain ⟨g', hv, hdir⟩ := del_one g i hlt hd
        have hlen : (c.eraseIdx i).length = c.length - 1 := by rw [List.length_eraseIdx, if_pos hlt]
        obtain ⟨s, hs, hs2⟩ := ih (c.eraseIdx i) 0 g' (by omega) (by omega) (fun t ht => by omega)
        have hdel : api_Knot.f c (i : Int) ((i : Int) + 1) = some (c.eraseIdx i) := by
          unfold api_Knot.f
          rw [if_pos ⟨by omega, by omega, rfl⟩, Int.toNat_natCast, List.eraseIdx_eq_take_drop_succ]
        refine ⟨s, evs (f := fun k => (curve_idle.f k c (i : Int)).bind fun t => if t = true then (api_Knot.f c (i : Int) (wrap64 ((i : Int) + 1))).bind fun t139 => curve_Simplify.l0 k t139 0 else curve_Simplify.l0 k c (wrap64 ((i : Int) + 1))) (fun k => ?_) (Ev.bind hev ?_), ?_⟩
        · simp only [curve_Simplify.l0]
          rw [if_pos (by omega)]
        · rw [w64s (by omega) (by omega)]
          simp only [hbo.2 hd, if_true, hdel, Option.bind_some]
          exact hs
        · have hf : Ev (fun k => plenumref03_Simplify.f k (c.eraseIdx i)) s := evs (fun k => rfl) hs2
          refine evs (f := fun k => (plenumref03_Simplify.f k (c.eraseIdx i)).bind fun t => some t) (fun k => ?_) (Ev.bind hf (Ev.now _))
          simp only [plenumref03_Simplify.l0]
          rw [if_pos (by omega), hu, w64s (by omega) (by omega)]
          simp only [Option.bind_some, hbu.2 hd, if_true, List.nil_append, List.length_nil, Int.toNat_natCast]
          rw [if_pos (by omega), if_pos (by omega), if_pos (by rw [List.length_take]; omega), if_pos (by omega), if_pos (by omega), show ((i : Int) + 1).toNat = i + 1 by omega, if_pos (by rw [List.length_take, List.length_drop]; omega), ← List.eraseIdx_eq_take_drop_succ]
      · obtain ⟨s, hs, hs2⟩ := ih c (i + 1) g (by omega) (by omega) (fun t ht => by
          rcases Nat.lt_or_ge t i with h | h
          · exact hno t h
          · have : t = i := by omega
            subst this; exact hd)
        refine ⟨s, evs (f := fun k => (curve_idle.f k c (i : Int)).bind fun t => if t = true then (api_Knot.f c (i : Int) (wrap64 ((i : Int) + 1))).bind fun t139 => curve_Simplify.l0 k t139 0 else curve_Simplify.l0 k c (wrap64 ((i : Int) + 1))) (fun k => ?_) (Ev.bind hev ?_), ?_⟩
        · simp only [curve_Simplify.l0]
          rw [if_pos (by omega)]
        · rw [w64s (by omega) (by omega)]
          rw [show bo = false from Bool.eq_false_iff.2 (fun h => hd (hbo.1 h))]
          exact hs
        · refine evs (fun k => ?_) hs2
          simp only [plenumref03_Simplify.l0]
          rw [if_pos (by omega), hu, w64s (by omega) (by omega)]
          simp only [Option.bind_some]
          rw [if_neg (fun h => hd (hbu.1 h))]
          rfl
    · have e : i = c.length := by omega
      refine ⟨c, evs (f := fun k => some (c, 0)) (fun k => ?_) (Ev.now _), evs (f := fun k => some c) (fun k => ?_) (Ev.now _)⟩
      · simp only [curve_Simplify.l0]
        rw [if_neg (by omega)]
      · simp only [plenumref03_Simplify.l0]
        rw [if_neg (by omega)]
        simp only [Option.bind_some, List.nil_append, List.length_nil]
        rw [if_pos (by omega)]
theorem simplify_both {c : List S50} (g : Good c) : ∃ s, Ev (fun k => curve_Simplify.f k c) (s, 0) ∧ Ev (fun k => plenumref03_Simplify.f k c) s := by
  have hle := g.le
  obtain ⟨s, hs, hs2⟩ := ref_loop _ c 0 g (by omega) (Nat.le_refl _) (fun t ht => by omega)
  exact ⟨s, simp_f g s hs, evs (fun k => rfl) hs2⟩
end Go.Proofs.Ytacheoimnckghaa.Pure
