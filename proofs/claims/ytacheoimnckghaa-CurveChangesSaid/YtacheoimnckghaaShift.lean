-- Shift, Same and Area.
import Derived.Test.YtacheoimnckghaaEval
import Derived.Test.YtacheoimnckghaaCells
import Derived.Test.YtacheoimnckghaaPTx16
import Derived.Test.YtacheoimnckghaaPTx11
namespace Go.Proofs.Ytacheoimnckghaa.Pure
open Go.RowKit Go.Proofs.Ytacheoimnckghaa.PT Go.Proofs.YtacheoimnckghaaW.PrintWords Go.Proofs.YtacheoimnckghaaW.PrintLast Go.Proofs.YtacheoimnckghaaW.PrintMore
set_option linter.unusedVariables false
set_option linter.unusedSimpArgs false
theorem s50_ext {a b : S50} (h0 : a.f0 = b.f0) (h1 : a.f1 = b.f1) : a = b := by
  cases a; cases b; simp at h0 h1; subst h0 h1; rfl
theorem list_ext {a b : List S50} (h : a.length = b.length) (hk : ∀ j, j < a.length → kn a j = kn b j) : a = b := by
  apply List.ext_getElem h
  intro j h1 h2
  have := hk j h1
  simpa [kn, h1, h2] using this
theorem same_loop (a b : List S50) (h : a.length = b.length) (hl : a.length ≤ 1000) : ∀ (n i : Nat), i + n = a.length → ∃ bo, Ev (fun k => plenumref03_Same.l0 k a b (i : Int)) bo ∧ (bo = true ↔ ∀ j, i ≤ j → j < a.length → kn a j = kn b j)
  | 0, i, hi => by
    refine ⟨true, evs (f := fun k => some true) (fun k => ?_) (Ev.now _), ⟨fun _ j h1 h2 => by omega, fun _ => rfl⟩⟩
    simp only [plenumref03_Same.l0]
    rw [if_neg (by omega)]
  | n + 1, i, hi => by
    by_cases he : kn a i = kn b i
    · obtain ⟨bo, h1, h2⟩ := same_loop a b h hl n (i + 1) (by omega)
      refine ⟨bo, evs (fun k => ?_) h1, h2.trans ⟨fun hh j g1 g2 => ?_, fun hh j g1 g2 => hh j (by omega) g2⟩⟩
      · simp only [plenumref03_Same.l0]
        rw [if_pos (by omega), if_pos (by omega), if_pos (by omega), rd_kn, rd_kn, he, w64s (by omega) (by omega)]
        simp
      · rcases Nat.eq_or_lt_of_le g1 with e | e
        · subst e; exact he
        · exact hh j e g2
    · refine ⟨false, evs (f := fun k => some false) (fun k => ?_) (Ev.now _), ⟨fun hh => absurd hh (by decide), fun hh => absurd (hh i (Nat.le_refl _) (by omega)) he⟩⟩
      simp only [plenumref03_Same.l0]
      rw [if_pos (by omega), if_pos (by omega), if_pos (by omega), rd_kn, rd_kn]
      have : (!((kn a i).f0 == (kn b i).f0) || (!((kn a i).f1 == (kn b i).f1))) = true := by
        by_cases h0 : (kn a i).f0 = (kn b i).f0
        · have h1 : ¬ (kn a i).f1 = (kn b i).f1 := fun h1 => he (s50_ext h0 h1)
          simp [h1]
        · simp [h0]
      rw [if_pos this]
theorem same_ev (a b : List S50) (hl : a.length ≤ 1000) : ∃ bo, Ev (fun k => plenumref03_Same.f k a b) bo ∧ (bo = true ↔ a = b) := by
  by_cases h : a.length = b.length
  · obtain ⟨bo, h1, h2⟩ := same_loop a b h hl a.length 0 (by omega)
    refine ⟨bo, Ev.congr (fun k => ?_) h1, h2.trans ⟨fun hh => list_ext h (fun j hj => hh j (by omega) hj), fun hh j _ _ => by rw [hh]⟩⟩
    unfold plenumref03_Same.f
    rw [if_pos (by omega)]
    rfl
  · refine ⟨false, Ev.congr (f := fun k => some false) (fun k => ?_) (Ev.now _), ⟨fun hh => absurd hh (by decide), fun hh => absurd (by rw [hh]) h⟩⟩
    unfold plenumref03_Same.f
    rw [if_neg (by omega)]
theorem same_refl (a : List S50) (hl : a.length ≤ 1000) : Ev (fun k => plenumref03_Same.f k a a) true := by
  obtain ⟨bo, h, hb⟩ := same_ev a a hl
  rwa [hb.2 rfl] at h

/-! ### Shift -/
def sh (dx dy : Int) (x : S50) : S50 := ⟨x.f0 + dx, x.f1 + dy⟩
theorem kn_app (A : List S50) (b : S50) (B : List S50) : kn (A ++ b :: B) A.length = b := by simp [kn]
instance decOk (x : S50) : Decidable (okI x) := by unfold okI; infer_instance
theorem shift_loop (dx dy : Int) (hx : -2000000000001 ≤ dx ∧ dx ≤ 2000000000001) (hy : -2000000000001 ≤ dy ∧ dy ≤ 2000000000001) :
    ∀ (B A : List S50), (A ++ B).length ≤ 1000 → (∀ b ∈ B, okI b) → Ev (fun k => curve_Shift.l0 k dx dy (A ++ B) ((A ++ B).length : Int) (A.length : Int)) (if ∀ b ∈ B, okI (sh dx dy b) then (A ++ B.map (sh dx dy), 0) else ([], 6))
  | [], A, hl, _ => by
    refine evs (f := fun k => some (A ++ [], 0)) (fun k => ?_) ?_
    · simp only [curve_Shift.l0]
      rw [if_neg (by simp)]
    · simp
      exact Ev.now _
  | b :: B, A, hl, hok => by
    have hb := hok b (by simp)
    obtain ⟨b0, b1, b2, b3⟩ := hb
    have hlen : (A ++ b :: B).length = A.length + 1 + B.length := by simp; omega
    have e1 : (A ++ b :: B).set A.length ⟨b.f0 + dx, b.f1⟩ = A ++ ⟨b.f0 + dx, b.f1⟩ :: B := by simp
    have e2 : (A ++ (⟨b.f0 + dx, b.f1⟩ : S50) :: B).set A.length ⟨b.f0 + dx, b.f1 + dy⟩ = A ++ ⟨b.f0 + dx, b.f1 + dy⟩ :: B := by simp
    have step : ∀ k, curve_Shift.l0 (k + 1) dx dy (A ++ b :: B) ((A ++ b :: B).length : Int) (A.length : Int) = if okI (sh dx dy b) then curve_Shift.l0 k dx dy ((A ++ [sh dx dy b]) ++ B) (((A ++ [sh dx dy b]) ++ B).length : Int) ((A ++ [sh dx dy b]).length : Int) else some ([], 6) := fun k => by
      simp only [curve_Shift.l0]
      rw [if_pos (by omega), if_pos (by omega), if_pos (by omega), rd_kn, kn_app, w64s (by omega) (by omega), Int.toNat_natCast, e1]
      simp only [Option.bind_some, rd_kn, kn_app]
      rw [w64s (by omega) (by omega), e2]
      simp only [rd_kn, kn_app]
      rw [inside_of, inside_of]
      simp only [Option.bind_some]
      have hw : wrap64 ((A.length : Int) + 1) = ((A ++ [sh dx dy b]).length : Int) := by rw [w64s (by omega) (by omega)]; simp
      have hL : (((A ++ [sh dx dy b]) ++ B).length : Int) = ((A ++ b :: B).length : Int) := by rw [hlen]; simp; omega
      rw [hw, hL]
      by_cases h0 : -1000000000000 ≤ b.f0 + dx ∧ b.f0 + dx ≤ 1000000000000
      · by_cases h1 : -1000000000000 ≤ b.f1 + dy ∧ b.f1 + dy ≤ 1000000000000
        · rw [if_pos (decide_eq_true h0), if_pos (decide_eq_true h1), if_pos (show okI (sh dx dy b) from ⟨h0.1, h0.2, h1.1, h1.2⟩)]
          simp [sh]
        · rw [if_pos (decide_eq_true h0), if_neg (by simpa using h1), if_neg (fun h => h1 ⟨h.2.2.1, h.2.2.2⟩)]
      · rw [if_neg (by simpa using h0), if_neg (fun h => h0 ⟨h.1, h.2.1⟩)]
    refine evs step ?_
    by_cases h : okI (sh dx dy b)
    · simp only [h, if_true]
      have ih := shift_loop dx dy hx hy B (A ++ [sh dx dy b]) (by simp at hl ⊢; omega) (fun x hx => hok x (by simp [hx]))
      have : (∀ x ∈ b :: B, okI (sh dx dy x)) ↔ ∀ x ∈ B, okI (sh dx dy x) := by simp [h]
      rw [ifc this]
      simpa using ih
    · simp only [h, if_false]
      rw [if_neg (fun hh => h (hh b (by simp)))]
      exact Ev.now _
def cl (d : Int) : Int := mx (-2000000000001) (mn 2000000000001 d)
theorem cl_range (d : Int) : -2000000000001 ≤ cl d ∧ cl d ≤ 2000000000001 := by
  unfold cl mx mn
  split <;> split <;> omega
theorem cl_id {d : Int} (h0 : -2000000000001 < cl d) (h1 : cl d < 2000000000001) : cl d = d := by
  unfold cl mx mn at *
  split <;> split <;> simp_all <;> omega
theorem cl_small {d : Int} (h0 : -2000000000000 ≤ d) (h1 : d ≤ 2000000000000) : cl d = d := by
  unfold cl mx mn
  split <;> split <;> omega
theorem shift_good {c : List S50} (g : Good c) (dx dy : Int) : Ev (fun k => curve_Shift.f k c dx dy) (if ∀ b ∈ c, okI (sh (cl dx) (cl dy) b) then (c.map (sh (cl dx) (cl dy)), 0) else ([], 6)) := by
  have hc := check_ev c
  rw [(chk_good c).2 g] at hc
  have hle := g.le
  have hok : ∀ b ∈ c, okI b := fun b hb => by
    obtain ⟨j, hj, rfl⟩ := List.getElem_of_mem hb
    have := g.ok j hj
    simpa [kn, hj] using this
  unfold curve_Shift.f
  refine Ev.bind hc ?_
  have hl := shift_loop (cl dx) (cl dy) (cl_range dx) (cl_range dy) c [] (by simp; omega) hok
  refine Ev.congr (fun k => ?_) hl
  simp only [if_true]
  rw [if_pos (by omega), if_pos (by omega)]
  simp only [Option.bind_some]
  have : copyKnots.f (List.replicate ((c.length : Int).toNat) z50) c = some ((c.length : Int), c) := by
    unfold copyKnots.f
    rw [if_pos (by simp)]
  rw [this]
  simp only [Option.bind_some, List.length_replicate, Int.toNat_natCast, List.nil_append, List.length_nil]
  rfl
theorem shift_bad {c : List S50} (g : ¬ Good c) (dx dy : Int) : Ev (fun k => curve_Shift.f k c dx dy) ([], chk c) := by
  unfold curve_Shift.f
  refine Ev.bind (check_ev c) ?_
  simp only [chk_ne g, if_false]
  exact Ev.now _
theorem kn_map (f : S50 → S50) (c : List S50) (j : Nat) (h : j < c.length) : kn (c.map f) j = f (kn c j) := by simp [kn, h]
theorem good_shift {c : List S50} (g : Good c) {dx dy : Int} (h : ∀ b ∈ c, okI (sh dx dy b)) : Good (c.map (sh dx dy)) := by
  refine ⟨by simpa using g.pos, by simpa using g.le, fun j hj => ?_, fun j hj => ?_⟩
  · have hj' : j < c.length := by simpa using hj
    rw [kn_map _ _ _ hj']
    exact h _ (kn_mem hj')
  · have hj' : j + 1 < c.length := by simpa using hj
    rw [kn_map _ _ _ hj', kn_map _ _ _ (by omega)]
    have := g.inc j hj'
    show (kn c j).f0 + dx < (kn c (j + 1)).f0 + dx
    omega
theorem shift_small {c : List S50} (g : Good c) {dx dy : Int} (h : ∀ b ∈ c, okI (sh (cl dx) (cl dy) b)) : cl dx = dx ∧ cl dy = dy ∧ -2000000000000 ≤ dx ∧ dx ≤ 2000000000000 ∧ -2000000000000 ≤ dy ∧ dy ≤ 2000000000000 := by
  have h0 := h _ (kn_mem g.pos)
  obtain ⟨a0, a1, a2, a3⟩ := g.ok 0 g.pos
  obtain ⟨b0, b1, b2, b3⟩ := h0
  simp only [sh] at b0 b1 b2 b3
  have e1 := cl_id (d := dx) (by omega) (by omega)
  have e2 := cl_id (d := dy) (by omega) (by omega)
  exact ⟨e1, e2, by omega, by omega, by omega, by omega⟩
theorem dir_shift (c : List S50) (dx dy : Int) : dir (c.map (sh dx dy)) = dir c := by
  have hu : UpAt (c.map (sh dx dy)) 0 ↔ UpAt c 0 := by
    constructor
    · rintro ⟨j, h1, h2, h3⟩
      have h2' : j + 1 < c.length := by simpa using h2
      rw [kn_map _ _ _ h2', kn_map _ _ _ (by omega)] at h3
      exact ⟨j, h1, h2', by simp only [sh] at h3; omega⟩
    · rintro ⟨j, h1, h2, h3⟩
      refine ⟨j, h1, by simpa using h2, ?_⟩
      rw [kn_map _ _ _ h2, kn_map _ _ _ (by omega)]
      simp only [sh]; omega
  have hd : DnAt (c.map (sh dx dy)) 0 ↔ DnAt c 0 := by
    constructor
    · rintro ⟨j, h1, h2, h3⟩
      have h2' : j + 1 < c.length := by simpa using h2
      rw [kn_map _ _ _ h2', kn_map _ _ _ (by omega)] at h3
      exact ⟨j, h1, h2', by simp only [sh] at h3; omega⟩
    · rintro ⟨j, h1, h2, h3⟩
      refine ⟨j, h1, by simpa using h2, ?_⟩
      rw [kn_map _ _ _ h2, kn_map _ _ _ (by omega)]
      simp only [sh]; omega
  unfold dir
  rw [decide_eq_decide.2 hu, decide_eq_decide.2 hd]
theorem ip_shift (a b : S50) (dx x : Int) : ip (sh dx 0 a) (sh dx 0 b) (x + dx) = ip a b x := by
  unfold ip sh
  simp only [Int.add_zero]
  rw [show b.f0 + dx - (a.f0 + dx) = b.f0 - a.f0 by omega, show x + dx - (a.f0 + dx) = x - a.f0 by omega]
theorem Vr_shift (dx : Int) : ∀ (l : List S50) (a : S50) (x : Int), Vr (sh dx 0 a) (l.map (sh dx 0)) (x + dx) = Vr a l x
  | [], a, x => by simp [Vr, sh]
  | b :: l, a, x => by
    simp only [List.map_cons, Vr]
    rw [ip_shift, Vr_shift dx l b x]
    have : (x + dx < (sh dx 0 b).f0) ↔ x < b.f0 := by simp only [sh]; omega
    rw [ifc this]
theorem V_shift (dx : Int) (c : List S50) (x : Int) : V (c.map (sh dx 0)) (x + dx) = V c x := by
  cases c with
  | nil => rfl
  | cons a l =>
    rw [List.map_cons, V_cons, V_cons, Vr_shift]
    have : (x + dx ≤ (sh dx 0 a).f0) ↔ x ≤ a.f0 := by simp only [sh]; omega
    rw [ifc this]
    simp [sh]

/-! ### Area -/
def sumTo (f : Nat → Int) : Nat → Int
  | 0 => 0
  | n + 1 => sumTo f n + f n
theorem sumTo_congr {f g : Nat → Int} : ∀ n, (∀ j, j < n → f j = g j) → sumTo f n = sumTo g n
  | 0, _ => rfl
  | n + 1, h => by simp only [sumTo]; rw [sumTo_congr n (fun j hj => h j (by omega)), h n (by omega)]
theorem sumTo_bound {f : Nat → Int} {a b : Int} : ∀ n, (∀ j, j < n → a ≤ f j ∧ f j ≤ b) → a * n ≤ sumTo f n ∧ sumTo f n ≤ b * n
  | 0, _ => by simp [sumTo]
  | n + 1, h => by
    have h1 := sumTo_bound n (fun j hj => h j (by omega))
    have h2 := h n (by omega)
    have e1 : a * ((n + 1 : Nat) : Int) = a * n + a := by rw [Int.natCast_add, Int.mul_add]; simp
    have e2 : b * ((n + 1 : Nat) : Int) = b * n + b := by rw [Int.natCast_add, Int.mul_add]; simp
    rw [e1, e2]
    simp only [sumTo]
    omega
def ap (c : List S50) (j : Nat) : Int := ((kn c (j + 1)).f0 - (kn c j).f0) * ((kn c j).f1 + (kn c (j + 1)).f1)
def aq (c : List S50) (j : Nat) : Int := ap c j / 1000000000000
def ar (c : List S50) (j : Nat) : Int := ap c j % 1000000000000
def area (c : List S50) : Int × Int × Int := (sumTo (aq c) (c.length - 1) + sumTo (ar c) (c.length - 1) / 1000000000000, sumTo (ar c) (c.length - 1) % 1000000000000, 0)
theorem ap_bound {c : List S50} (g : Good c) (j : Nat) (h : j + 1 < c.length) : (((kn c (j + 1)).f0 - (kn c j).f0).natAbs : Int) * ((kn c j).f1 + (kn c (j + 1)).f1).natAbs ≤ 4000000000000000000000000 := by
  obtain ⟨a0, a1, a2, a3⟩ := g.ok j (by omega)
  obtain ⟨b0, b1, b2, b3⟩ := g.ok (j + 1) h
  have h1 : (((kn c (j + 1)).f0 - (kn c j).f0).natAbs : Int) * ((kn c j).f1 + (kn c (j + 1)).f1).natAbs ≤ (((kn c (j + 1)).f0 - (kn c j).f0).natAbs : Int) * 2000000000000 := Int.mul_le_mul_of_nonneg_left (by omega) (by omega)
  omega
theorem aq_bound {c : List S50} (g : Good c) (j : Nat) (h : j + 1 < c.length) : -4000000000000 ≤ aq c j ∧ aq c j ≤ 4000000000000 := by
  have hp := ap_bound g j h
  rw [← Int.natCast_mul, ← Int.natAbs_mul] at hp
  unfold aq ap
  omega
theorem area_loop {c : List S50} (g : Good c) : ∀ (n i : Nat), i + 1 + n = c.length → Ev (fun k => curve_Area.l0 k c (sumTo (aq c) i) (sumTo (ar c) i) ((i + 1 : Nat) : Int)) (area c) := by
  have hle := g.le
  have hq : ∀ i, i + 1 ≤ c.length → -4000000000000 * (i : Int) ≤ sumTo (aq c) i ∧ sumTo (aq c) i ≤ 4000000000000 * i := fun i hi => sumTo_bound i (fun j hj => aq_bound g j (by omega))
  have hr : ∀ i, i + 1 ≤ c.length → 0 * (i : Int) ≤ sumTo (ar c) i ∧ sumTo (ar c) i ≤ 1000000000000 * i := fun i hi => sumTo_bound i (fun j hj => by unfold ar; omega)
  intro n
  induction n with
  | zero =>
    intro i hi
    obtain ⟨q0, q1⟩ := hq i (by omega)
    obtain ⟨r0, r1⟩ := hr i (by omega)
    have e : c.length - 1 = i := by omega
    unfold area
    rw [e]
    refine evs (f := fun k => some _) (fun k => ?_) (Ev.now _)
    simp only [curve_Area.l0]
    rw [if_neg (by omega), Int.tdiv_eq_ediv_of_nonneg (by omega), Int.tmod_eq_emod_of_nonneg (by omega), w64s (x := sumTo (ar c) i / 1000000000000) (by omega) (by omega), w64s (by omega) (by omega)]
  | succ n ih =>
    intro i hi
    have hw : wrap64 (((i + 1 : Nat) : Int) - 1) = (i : Int) := by rw [w64s (by omega) (by omega)]; omega
    have hw2 : wrap64 (((i + 1 : Nat) : Int) + 1) = ((i + 1 + 1 : Nat) : Int) := by rw [w64s (by omega) (by omega)]; omega
    obtain ⟨a0, a1, a2, a3⟩ := g.ok i (by omega)
    obtain ⟨b0, b1, b2, b3⟩ := g.ok (i + 1) (by omega)
    have hb := ap_bound g i (by omega)
    have hd := divide_ev (a := (kn c (i + 1)).f0 - (kn c i).f0) (b := (kn c i).f1 + (kn c (i + 1)).f1) (c := 1000000000000) (by omega) (by omega) (by omega) (by omega) (by omega) (by omega) (by omega)
    obtain ⟨q0, q1⟩ := hq (i + 1) (by omega)
    obtain ⟨r0, r1⟩ := hr (i + 1) (by omega)
    refine evs (f := fun k => (curve_divide.f k ((kn c (i + 1)).f0 - (kn c i).f0) ((kn c i).f1 + (kn c (i + 1)).f1) 1000000000000).bind fun bt => curve_Area.l0 k c (wrap64 (sumTo (aq c) i + bt.1)) (wrap64 (sumTo (ar c) i + bt.2)) ((i + 1 + 1 : Nat) : Int)) (fun k => ?_) (Ev.bind hd ?_)
    · simp only [curve_Area.l0]
      rw [if_pos (by omega), if_pos (by omega), hw, if_pos (by omega), if_pos (by omega), rd_kn, rd_kn, hw2, w64s (x := (kn c (i + 1)).f0 - (kn c i).f0) (by omega) (by omega), w64s (x := (kn c i).f1 + (kn c (i + 1)).f1) (by omega) (by omega)]
    · have e1 : wrap64 (sumTo (aq c) i + ((kn c (i + 1)).f0 - (kn c i).f0) * ((kn c i).f1 + (kn c (i + 1)).f1) / 1000000000000) = sumTo (aq c) (i + 1) := by
        show wrap64 (sumTo (aq c) (i + 1)) = _
        rw [w64s (by omega) (by omega)]
      have e2 : wrap64 (sumTo (ar c) i + ((kn c (i + 1)).f0 - (kn c i).f0) * ((kn c i).f1 + (kn c (i + 1)).f1) % 1000000000000) = sumTo (ar c) (i + 1) := by
        show wrap64 (sumTo (ar c) (i + 1)) = _
        rw [w64s (by omega) (by omega)]
      simp only [e1, e2]
      exact ih (i + 1) (by omega)
theorem area_good {c : List S50} (g : Good c) : Ev (fun k => curve_Area.f k c) (area c) := by
  have hc := check_ev c
  rw [(chk_good c).2 g] at hc
  unfold curve_Area.f
  refine Ev.bind hc ?_
  simp only [if_true]
  have hpos := g.pos
  exact area_loop g (c.length - 1) 0 (by omega)
theorem area_bad {c : List S50} (g : ¬ Good c) : Ev (fun k => curve_Area.f k c) (0, 0, chk c) := by
  unfold curve_Area.f
  refine Ev.bind (check_ev c) ?_
  simp only [chk_ne g, if_false]
  exact Ev.now _
theorem area_shift {c : List S50} (dx : Int) : area (c.map (sh dx 0)) = area c := by
  have hp : ∀ j, j < c.length - 1 → ap (c.map (sh dx 0)) j = ap c j := fun j hj => by
    unfold ap
    rw [kn_map _ _ _ (by omega), kn_map _ _ _ (by omega)]
    simp only [sh, Int.add_zero]
    rw [show (kn c (j + 1)).f0 + dx - ((kn c j).f0 + dx) = (kn c (j + 1)).f0 - (kn c j).f0 by omega]
  unfold area
  rw [List.length_map, sumTo_congr _ (fun j hj => show aq (c.map (sh dx 0)) j = aq c j by unfold aq; rw [hp j hj]), sumTo_congr (f := ar (c.map (sh dx 0))) (g := ar c) _ (fun j hj => by unfold ar; rw [hp j hj])]
end Go.Proofs.Ytacheoimnckghaa.Pure
