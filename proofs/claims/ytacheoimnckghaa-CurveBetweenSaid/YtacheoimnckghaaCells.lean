-- Rows of knots: their cells one behind the other; copy of a whole row; slices.Delete of one knot.
import Derived.Test.YtacheoimnckghaaPTx0
import Derived.Deep.RegionLaw
import Derived.Laws.CopyRow
import Derived.Laws.CopyOwn
import Derived.Deep.Upon
namespace Go.Proofs.Ytacheoimnckghaa.PT
open Go.RowKit Go.Proofs.YtacheoimnckghaaW.PrintWords Go.Proofs.YtacheoimnckghaaW.PrintLast Go.Proofs.YtacheoimnckghaaW.PrintMore
set_option linter.unusedVariables false
set_option linter.unusedSimpArgs false

/-- The cells of a row of knots. -/
def flatK : List S50 → List Value
  | [] => []
  | x :: l => .int .i64 x.f0 :: .int .i64 x.f1 :: flatK l
theorem flatK_length : ∀ l, (flatK l).length = l.length * 2
  | [] => rfl
  | x :: l => by simp only [flatK, List.length_cons, flatK_length l]; omega
theorem flatK_append : ∀ l m, flatK (l ++ m) = flatK l ++ flatK m
  | [], _ => rfl
  | x :: l, m => by simp only [List.cons_append, flatK, flatK_append l m]
theorem flatK_one : ∀ l, ∀ u ∈ flatK l, u.oneCell' = true
  | [], u, h => by simp [flatK] at h
  | x :: l, u, h => by
    simp only [flatK, List.mem_cons] at h
    rcases h with rfl | rfl | h
    · rfl
    · rfl
    · exact flatK_one l u h
theorem flatK_get : ∀ (l : List S50) (m : Nat), (flatK l)[m]? = (l[m / 2]?).bind fun p => [Value.int .i64 p.f0, Value.int .i64 p.f1][m % 2]?
  | [], m => by simp [flatK]
  | x :: l, 0 => by simp [flatK]
  | x :: l, 1 => by simp [flatK]
  | x :: l, m + 2 => by
    have h1 : (m + 2) / 2 = m / 2 + 1 := by omega
    have h2 : (m + 2) % 2 = m % 2 := by omega
    simp only [flatK, List.getElem?_cons_succ, flatK_get l m, h1, h2]
theorem flatK_take : ∀ (l : List S50) (n : Nat), (flatK l).take (n * 2) = flatK (l.take n)
  | [], n => by simp [flatK]
  | x :: l, 0 => by simp [flatK]
  | x :: l, n + 1 => by
    have h : (n + 1) * 2 = n * 2 + 1 + 1 := by omega
    rw [h]
    simp only [flatK, List.take_succ_cons, flatK_take l n]
theorem flatK_drop : ∀ (l : List S50) (n : Nat), (flatK l).drop (n * 2) = flatK (l.drop n)
  | [], n => by simp [flatK]
  | x :: l, 0 => by simp
  | x :: l, n + 1 => by
    have h : (n + 1) * 2 = n * 2 + 1 + 1 := by omega
    rw [h]
    simp only [flatK, List.drop_succ_cons, flatK_drop l n]
theorem flatK_at (l : List S50) (j : Nat) (p : S50) (h : l[j]? = some p) : ((flatK l).drop (j * 2)).take 2 = [.int .i64 p.f0, .int .i64 p.f1] := by
  rw [flatK_drop]
  have hj : j < l.length := (List.getElem?_eq_some_iff.1 h).1
  have hp : l[j] = p := (List.getElem?_eq_some_iff.1 h).2
  rw [List.drop_eq_getElem_cons hj, hp]
  simp [flatK]
theorem flatK_of_reps {R : S50 → List Value → Prop} (hR : ∀ p c, R p c → c = [.int .i64 p.f0, .int .i64 p.f1]) : ∀ (l : List S50) (cs : List Value), Reps R 2 l cs → cs = flatK l
  | [], cs, h => by
    have := h.1
    simpa [flatK] using this
  | p :: l, cs, h => by
    have h0 := hR _ _ (h.2 0 p rfl)
    have hl := h.1
    simp only [List.length_cons, Nat.zero_mul, List.drop_zero] at h0 hl
    have ht : Reps R 2 l (cs.drop 2) := by
      refine ⟨by rw [List.length_drop]; omega, fun j q hq => ?_⟩
      have := h.2 (j + 1) q (by simpa using hq)
      rw [List.drop_drop]
      rw [show 2 + j * 2 = (j + 1) * 2 by omega]
      exact this
    have hd := flatK_of_reps hR l _ ht
    have : cs = cs.take 2 ++ cs.drop 2 := (List.take_append_drop 2 cs).symm
    rw [this, h0, hd]
    rfl
theorem reps_flatK {R : S50 → List Value → Prop} (hR : ∀ p : S50, R p [.int .i64 p.f0, .int .i64 p.f1]) (l : List S50) : Reps R 2 l (flatK l) :=
  ⟨flatK_length l, fun j p h => by rw [flatK_at l j p h]; exact hR p⟩
theorem R50_open {w : World} {base : Nat} {ok : Nat → Prop} {v : Value} {l : List S50} (h : Kd.R k50 50 w base ok v l) :
    (v = .slice none 0 0 ∧ l = []) ∨ ∃ g cap cur, v = .slice (some ⟨g, 0, none⟩) l.length cap ∧ base ≤ g ∧ ok g ∧ w.heap[g]? = some (.cells cur 50 (0, 0)) ∧ l.length ≤ cap ∧ cap ≤ maxLen ∧ cur.size = cap * 2 ∧ cur.toList.take (l.length * 2) = flatK l := by
  obtain ⟨h0, cs, ho, hr⟩ := h
  have hf := flatK_of_reps (fun p c hp => k50_openM hp) l cs hr
  subst hf
  rcases ho.2 with ⟨rfl, hn⟩ | ⟨g, cap, cur, rfl, hb, hg, h1, h2, h3, h4⟩
  · exact .inl ⟨rfl, List.eq_nil_of_length_eq_zero hn⟩
  · exact .inr ⟨g, cap, cur, rfl, hb, h0 g rfl, hg, h1, h2, h3, h4⟩
theorem R50_mk {w : World} {base : Nat} {ok : Nat → Prop} {l : List S50} {g cap n : Nat} {cur : Array Value} (hn : n = l.length) (hb : base ≤ g) (hok : ok g) (hg : w.heap[g]? = some (.cells cur 50 (0, 0))) (h1 : l.length ≤ cap) (h2 : cap ≤ maxLen) (h3 : cur.size = cap * 2) (h4 : cur.toList.take (l.length * 2) = flatK l) :
    Kd.R k50 50 w base ok (.slice (some ⟨g, 0, none⟩) n cap) l := by
  subst hn
  refine ⟨fun k hk => ?_, flatK l, ⟨flatK_length l, .inr ⟨g, cap, cur, rfl, hb, hg, h1, h2, h3, h4⟩⟩, reps_flatK (fun p => k50_mkM _ _ _ p) l⟩
  have : g = k := by simpa [Value.ownBlock] using hk
  subst this
  exact hok
theorem C50_cell {w : World} {ad : Addr} {l : List S50} (h : Kd.C k50 w (some ad) l.length l) (m : Nat) (u : Value) (hu : (flatK l)[m]? = some u) : w.cell? (ad.add m) = some u := by
  have hm : m < l.length * 2 := by rw [← flatK_length]; exact (List.getElem?_eq_some_iff.1 hu).1
  obtain ⟨ad', e, hc⟩ := h.2.2 (by omega)
  cases e
  rw [flatK_get] at hu
  cases hp : l[m / 2]? with
  | none => simp [hp] at hu
  | some p =>
    rw [hp] at hu
    obtain ⟨c, hl, hk, hcell⟩ := hc (m / 2) p hp
    rw [k50_open hk] at hcell
    have := hcell (m % 2) u hu
    have e2 : m / 2 * k50.sz + m % 2 = m := by show m / 2 * 2 + m % 2 = m; omega
    rwa [e2] at this
theorem C50_some {w : World} {A : Option Addr} {l : List S50} (h : Kd.C k50 w A l.length l) (h0 : 0 < l.length) : ∃ ad, A = some ad := by
  obtain ⟨ad, e, _⟩ := h.2.2 h0
  exact ⟨ad, e⟩

/-! ### copy -/
/-- A run of the builtin copy, in a contract's form. -/
def BCalls (P : Program) (ats : Array TypeId) (ty : TypeId) (args : Array Value) (w : World) (Q : Ending → World → Prop) : Prop := ∃ v w', (Builtin.copy_ ats ty args).run P w = .ok v w' ∧ Q (.returned v) w'
theorem BCalls.mono {P : Program} {ats : Array TypeId} {ty : TypeId} {args : Array Value} {w : World} {Q Q' : Ending → World → Prop} (h : BCalls P ats ty args w Q) (hq : ∀ e w', Q e w' → Q' e w') : BCalls P ats ty args w Q' := by
  obtain ⟨v, w', hr, hh⟩ := h
  exact ⟨v, w', hr, hq _ _ hh⟩
theorem goesB_ {P : Program} {ops : Array Oper} {Q : Exit → Act → World → Prop} {rest : List Oper} {oi : Oper} {a : Act} {w : World} (N : Option Tmp) (hd : oi.dst = N) (hg : oi.guard = none) (x y : Operand) (ts : Array TypeId) (ty : TypeId) (hty : oi.type = ty) (vx vy : Value)
    (hop : oi.op = .call { callee := .builtin .copy, args := #[x, y], argTypes := ts }) (hx : a.eval x = vx) (hy : a.eval y = vy)
    (h : BCalls P ts ty #[vx, vy] w fun e w' => ∃ v, e = .returned v ∧ wpList P ops Q rest (a.put N v) w') : wpList P ops Q (oi :: rest) a w := by
  refine wpList_plain hg fun K hK => ?_
  obtain ⟨v, w', hrun, v', hv, hk⟩ := h
  cases hv
  subst hty
  unfold Oper.wp
  simp [execOp, hop, resolve, invoke, builtin, hx, hy, hrun, Result.andThen]
  subst hd
  exact hK _ _ hk

def copyKnots.f (l0 : List (S50)) (l1 : List (S50)) : Option (Int × (List (S50))) := if l0.length = l1.length then some ((l1.length : Int), l1) else none
theorem copyKnots.calls (P0_ : Nat → Prop) (u9000_ : Value) (l0 : List (S50)) (A1 : Option Addr) (c1 : Nat) (l1 : List (S50)) (r1 : Int) (r2 : List (S50)) (w0 w : World) (hB : Below w0.heap.size w0 w) (ho0 : Kd.R k50 50 w w0.heap.size P0_ u9000_ l0) (hr1 : ∀ W_, Kept w W_ (fun k_ => P0_ k_) → Kd.C k50 W_ A1 l1.length l1) (hc1 : l1.length ≤ c1) (h : copyKnots.f l0 l1 = some (r1, r2)) :
    BCalls Try.prog #[22, 22] 3 #[u9000_, .slice A1 l1.length c1] w fun e w' => e = .returned (.int .i64 r1) ∧ Kd.R k50 50 w' w0.heap.size (fun k_ => (P0_ k_ ∨ w.heap.size ≤ k_)) u9000_ r2 ∧ Below w0.heap.size w0 w' ∧ Kept w w' (fun k_ => P0_ k_) := by
  unfold copyKnots.f at h
  split at h
  case isFalse => cases h
  rename_i hl
  simp only [Option.some.injEq, Prod.mk.injEq] at h
  obtain ⟨rfl, rfl⟩ := h
  obtain ⟨i0, hi0, hz0, hz1, hz2⟩ := info_parts info50
  have hu := Try.underlying22
  have hC := hr1 w (Kept.refl w _)
  rcases R50_open ho0 with ⟨rfl, rfl⟩ | ⟨g, cap, cur, rfl, hbg, hok, hg, h1, h2, h3, h4⟩
  · have hl1 : l1 = [] := List.eq_nil_of_length_eq_zero hl.symm
    subst hl1
    refine ⟨goInt 0, w, ?_, rfl, Kd.R_mono ho0 (fun k hk => .inl hk), hB, Kept.refl w _⟩
    cases A1 with
    | none => simp [Builtin.copy_, run_underlying hu, Builtin.lenOf, Builtin.firstCells, sizeOf, typeInfo, hi0, hz1]
    | some ad =>
      have hl := run_loadCells_list (P := Try.prog) w ad [] (by simp)
      simp only [List.length_nil] at hl
      simp [Builtin.copy_, run_underlying hu, Builtin.lenOf, Builtin.firstCells, sizeOf, typeInfo, hi0, hz1, hl]
  · rcases Nat.eq_zero_or_pos l1.length with hz | hpos
    · have hl1 : l1 = [] := List.eq_nil_of_length_eq_zero hz
      have hl0 : l0 = [] := List.eq_nil_of_length_eq_zero (hl.trans hz)
      subst hl1
      subst hl0
      refine ⟨goInt 0, w, ?_, rfl, Kd.R_mono ho0 (fun k hk => .inl hk), hB, Kept.refl w _⟩
      cases A1 with
      | none => simp [Builtin.copy_, run_underlying hu, Builtin.lenOf, Builtin.firstCells, sizeOf, typeInfo, hi0, hz1, storeCells]
      | some ad =>
        have hl := run_loadCells_list (P := Try.prog) w ad [] (by simp)
        simp only [List.length_nil] at hl
        simp [Builtin.copy_, run_underlying hu, Builtin.lenOf, Builtin.firstCells, sizeOf, typeInfo, hi0, hz1, hl, storeCells]
    · obtain ⟨ad, rfl⟩ := C50_some hC hpos
      have hld := run_loadCells_list (P := Try.prog) w ad (flatK l1) (fun j v hv => C50_cell hC j v hv)
      have hst := run_storeCells_at Try.prog g 0 50 (flatK l1) 0 cur w hg (by rw [flatK_length, h3]; omega) (flatK_one l1)
      rw [flatK_length] at hld
      refine ⟨goInt l1.length, w.setRow g (cur.toList.take 0 ++ flatK l1 ++ cur.toList.drop (0 + (flatK l1).length)).toArray, ?_, rfl, ?_, ?_, ?_⟩
      · simp [Builtin.copy_, run_underlying hu, Builtin.lenOf, Builtin.firstCells, sizeOf, typeInfo, hi0, hz1, hl, hld, hst]
      · rw [hl]
        refine R50_mk rfl hbg (.inl hok) (setRow_heap w g cur _ 50 _ hg) (by omega) h2 ?_ ?_
        · simp only [List.size_toArray, List.length_append, List.length_take, List.length_drop, Array.length_toList, flatK_length]
          omega
        · simp [← flatK_length]
      · exact below_setRow hB hbg _
      · exact ⟨by simp [World.setRow], fun k hk hn => setRow_other w g k _ (fun e => hn (by rw [e]; exact hok))⟩
/-! ### slices.Delete -/
theorem row_setCells {t : TypeId} (g : Nat) : ∀ (vs : List Value) (o : Nat) (cur : Array Value) (w : World), w.heap[g]? = some (.cells cur t (0, 0)) → o + vs.length ≤ cur.size →
    (w.setCells g o vs).heap[g]? = some (.cells (cur.toList.take o ++ vs ++ cur.toList.drop (o + vs.length)).toArray t (0, 0))
  | [], o, cur, w, hg, _ => by
    simp only [World.setCells, List.append_nil, List.length_nil, Nat.add_zero, List.take_append_drop, Array.toArray_toList]
    exact hg
  | v :: r, o, cur, w, hg, hl => by
    have hl' : o + 1 + r.length ≤ cur.size := by simp at hl; omega
    have ih := row_setCells g r (o + 1) (cur.setIfInBounds o v) (w.setCell ⟨g, o, none⟩ v) (blk_set hg o v) (by simpa using hl')
    have e := list_seg_step cur.toList o v r (by simp at hl ⊢; omega)
    simp only [World.setCells]
    rw [ih]
    congr 3
    simpa [Array.toList_setIfInBounds, Nat.add_assoc] using e
theorem below_setCellsR {B : Nat} {a : World} (b : Nat) (hb : B ≤ b) : ∀ (vs : List Value) (o : Nat) {w : World}, Below B a w → Below B a (w.setCells b o vs)
  | [], _, _, h => h
  | v :: r, o, w, h => below_setCellsR b hb r (o + 1) ⟨h.os, h.tape, h.output, by simpa using h.size, fun k hk => (Below.heap_setCell w ⟨b, o, none⟩ v k (by show k ≠ b; omega)).trans (h.block k hk)⟩
theorem size_setCellsR (b : Nat) : ∀ (vs : List Value) (o : Nat) (w : World), (w.setCells b o vs).heap.size = w.heap.size
  | [], _, _ => rfl
  | v :: r, o, w => (size_setCellsR b r (o + 1) _).trans (by simp)

def api_Knot.f (l0 : List (S50)) (a1 : Int) (a2 : Int) : Option ((List (S50))) := if 0 ≤ a1 ∧ a1 < (l0.length : Int) ∧ a2 = a1 + 1 then some (l0.take a1.toNat ++ l0.drop (a1.toNat + 1)) else none
theorem del_cells (g n cap i : Nat) (cur : Array Value) (l : List S50) (w : World) (hg : w.heap[g]? = some (.cells cur 50 (0, 0))) (hn : l.length = n) (hi : i < n) (h1 : n ≤ cap) (h2 : cap ≤ maxLen) (h3 : cur.size = cap * 2) (h4 : cur.toList.take (n * 2) = flatK l) :
    Calls Try.prog 32 #[.slice (some ⟨g, 0, none⟩) n cap, .int .i64 (i : Nat), .int .i64 ((i + 1 : Nat) : Int)] w fun e w' => e = .returned (.slice (some ⟨g, 0, none⟩) (i + (n - (i + 1))) cap) ∧
      ∃ cur', w' = (w.drew.setCells g (i * 2) (flatK (l.drop (i + 1)))).setRow g cur' ∧ w'.heap[g]? = some (.cells cur' 50 (0, 0)) ∧ cur'.size = cap * 2 ∧ cur'.toList.take ((n - 1) * 2) = flatK (l.take i ++ l.drop (i + 1)) := by
  obtain ⟨i0, hi0, hz0, hz1, hz2⟩ := info_parts info50
  have hgd : w.drew.heap[g]? = some (.cells cur 50 (0, 0)) := hg
  have hcell : ∀ j, w.drew.cell? ⟨g, j, none⟩ = cur[j]? := fun j => blk_cell hgd j
  have hget : ∀ m u, (flatK l)[m]? = some u → w.drew.cell? ⟨g, m, none⟩ = some u := by
    intro m u hu
    rw [hcell, ← Array.getElem?_toList]
    rw [← h4, List.getElem?_take] at hu
    split at hu
    · exact hu
    · cases hu
  have hdl : (flatK (l.drop (i + 1))).length = (n - (i + 1)) * 2 := by rw [flatK_length, List.length_drop, hn]
  obtain ⟨A, hA, hnews⟩ : ∃ A : Addr, (if cap = i + 1 then some (⟨g, 0, none⟩ : Addr) else some ⟨g, (i + 1) * 2, none⟩) = some A ∧ Hid (∀ j u, (flatK (l.drop (i + 1)))[j]? = some u → w.drew.cell? (A.add j) = some u) := by
    by_cases h : cap = i + 1
    · refine ⟨⟨g, 0, none⟩, by simp [h], fun j u hu => ?_⟩
      have h0 : (flatK (l.drop (i + 1))).length = 0 := by rw [hdl]; omega
      rw [List.length_eq_zero_iff.1 h0] at hu
      simp at hu
    · refine ⟨⟨g, (i + 1) * 2, none⟩, by simp [h], fun j u hu => ?_⟩
      rw [Addr.add_lit]
      refine hget _ _ ?_
      rw [← flatK_drop, List.getElem?_drop] at hu
      exact hu
  have s1 : Hid ((flatK (l.drop (i + 1))).length = (n - (i + 1)) * 2) := hdl
  have s2 : Hid (∀ u ∈ flatK (l.drop (i + 1)), u.oneCell' = true) := flatK_one _
  have s3 : Hid (∀ j, j < (flatK (l.drop (i + 1))).length → (w.drew.cell? ⟨g, 0 + i * 2 + j, none⟩).isSome = true ∧ w.drew.frozen? ⟨g, 0 + i * 2 + j, none⟩ = false) := by
    intro j hj
    rw [hdl] at hj
    refine ⟨?_, blk_frozen hgd _⟩
    rw [hcell, Array.getElem?_eq_getElem (by omega)]
    rfl
  have hic : i ≤ cap := by omega
  have hic1 : i + 1 ≤ n := by omega
  have hroom : i + (n - (i + 1)) ≤ cap := by omega
  have hp0 : (0 : Int) ≤ (i : Int) + 1 := by omega
  have hp1 : (i : Int) + 1 ≤ (n : Int) := by omega
  have hp2 : ((i : Int) + 1).toNat = i + 1 := by omega
  have e1 : i + (n - (i + 1)) = n - 1 := by omega
  have hrow := row_setCells (t := 50) g (flatK (l.drop (i + 1))) (i * 2) cur w.drew hgd (by rw [hdl]; omega)
  obtain ⟨cur1, hc1⟩ : ∃ c, c = (cur.toList.take (i * 2) ++ flatK (l.drop (i + 1)) ++ cur.toList.drop (i * 2 + (flatK (l.drop (i + 1))).length)).toArray := ⟨_, rfl⟩
  rw [← hc1] at hrow
  have hs1 : cur1.size = cap * 2 := by
    rw [hc1]
    simp only [List.size_toArray, List.length_append, List.length_take, List.length_drop, Array.length_toList, hdl]
    omega
  have ht0 : cur.toList.take (i * 2) = flatK (l.take i) := by
    rw [← flatK_take, ← h4, List.take_take, Nat.min_eq_left (by omega)]
  have ht1 : cur1.toList.take ((n - 1) * 2) = flatK (l.take i ++ l.drop (i + 1)) := by
    rw [hc1, flatK_append, ← ht0]
    have hl2 : (cur.toList.take (i * 2) ++ flatK (l.drop (i + 1))).length = (n - 1) * 2 := by
      simp only [List.length_append, List.length_take, Array.length_toList, hdl]
      omega
    show List.take _ (_ ++ _) = _
    rw [← hl2, List.take_left]
  have hst := run_storeCells_at Try.prog g ((n - 1) * 2) 50 [.int .i64 0, .int .i64 0] 0 cur1 _ hrow (by rw [hs1]; simp only [List.length_cons, List.length_nil]; omega) (by simp [Value.oneCell'])
  obtain ⟨cur2, hc2⟩ : ∃ c, c = (cur1.toList.take ((n - 1) * 2 + 0) ++ [Value.int .i64 0, Value.int .i64 0] ++ cur1.toList.drop ((n - 1) * 2 + 0 + [Value.int .i64 0, Value.int .i64 0].length)).toArray := ⟨_, rfl⟩
  rw [← hc2] at hst
  have hs2 : cur2.size = cap * 2 := by
    rw [hc2]
    simp only [List.size_toArray, List.length_append, List.length_take, List.length_drop, Array.length_toList, List.length_cons, List.length_nil, hs1]
    omega
  have ht2 : cur2.toList.take ((n - 1) * 2) = flatK (l.take i ++ l.drop (i + 1)) := by
    rw [← ht1, hc2]
    show List.take _ (_ ++ _ ++ _) = _
    rw [List.append_assoc, List.take_append_of_le_length (by simp only [List.length_take, Array.length_toList]; omega), Nat.add_zero, List.take_take, Nat.min_self]
  obtain ⟨w2, hw2⟩ : ∃ w2, w2 = (w.drew.setCells g (i * 2) (flatK (l.drop (i + 1)))).setRow g cur2 := ⟨_, rfl⟩
  have hclr : (Builtin.clear_ #[22] 0 #[.slice (some ⟨g, (i + (n - (i + 1))) * 2, none⟩) (n - (i + (n - (i + 1)))) (cap - (i + (n - (i + 1))))]).run Try.prog (w.drew.setCells g (i * 2) (flatK (l.drop (i + 1)))) = .ok (.tuple #[]) w2 := by
    rw [e1, show n - (n - 1) = 1 by omega, hw2]
    have hz : (Builtin.zeroCells #[Value.int .i64 0, Value.int .i64 0] 1).toList = [Value.int .i64 0, Value.int .i64 0] := by simp [Builtin.zeroCells, List.range_succ]
    simp [Builtin.clear_, run_underlying Try.underlying22, zeroValue, typeInfo, hi0, hz0, Value.cells, hz, hst]
  have hfin : Hid (∃ cur', w2 = (w.drew.setCells g (i * 2) (flatK (l.drop (i + 1)))).setRow g cur' ∧ w2.heap[g]? = some (.cells cur' 50 (0, 0)) ∧ cur'.size = cap * 2 ∧ cur'.toList.take ((n - 1) * 2) = flatK (l.take i ++ l.drop (i + 1))) :=
    ⟨cur2, hw2, by rw [hw2]; exact setRow_heap _ g cur1 cur2 50 _ hrow, hs2, ht2⟩
  clear hget hcell e1 hrow hs1 ht0 ht1 hst hs2 ht2 hw2 hc1 hc2
  go_enter Try.func32, Try.ntmps32
  go_wp2_with fail
  go_region_law (refine step_append_room rfl (.tmp 22) (.tmp 25) 22 rfl 50 i0 2 Try.underlying22 hi0 hz1 g 0 i cap (by simp [Act.eval, Act.put]) A (n - (i + 1)) (cap - (i + 1)) (flatK (l.drop (i + 1))) (by simp [Act.eval, Act.put]) s1.out hnews.out s2.out hroom s3.out ?_)
  go_wp2
  go_ret
  exact ⟨rfl, hfin.out⟩
theorem api_Knot.calls (P0_ : Nat → Prop) (u9000_ : Value) (l0 : List (S50)) (a1 : Int) (a2 : Int) (r : List (S50)) (w0 w : World) (hB : Below w0.heap.size w0 w) (ho0 : Kd.R k50 50 w w0.heap.size P0_ u9000_ l0) (h : api_Knot.f l0 a1 a2 = some r) :
    Calls Try.prog 32 #[u9000_, .int .i64 a1, .int .i64 a2] w fun e w' => ∃ v0_ : Value, e = .returned (v0_) ∧ Kd.R k50 50 w' w0.heap.size (fun k_ => (P0_ k_ ∨ w.heap.size ≤ k_)) v0_ r ∧ Below w0.heap.size w0 w' ∧ Kept w w' (fun k_ => P0_ k_) := by
  unfold api_Knot.f at h
  split at h
  case isFalse => cases h
  rename_i hc
  obtain ⟨hc0, hc1, rfl⟩ := hc
  obtain ⟨i, rfl⟩ : ∃ i : Nat, a1 = (i : Int) := ⟨a1.toNat, by omega⟩
  simp only [Int.toNat_natCast, Option.some.injEq] at h
  subst h
  have hi : i < l0.length := by omega
  rcases R50_open ho0 with ⟨rfl, rfl⟩ | ⟨g, cap, cur, rfl, hbg, hok, hg, h1, h2, h3, h4⟩
  · simp at hi
  · refine (del_cells g l0.length cap i cur l0 w hg rfl hi h1 h2 h3 h4).mono ?_
    rintro e w' ⟨rfl, cur', hw', hg', hs', ht'⟩
    have hl : (l0.take i ++ l0.drop (i + 1)).length = l0.length - 1 := by
      rw [List.length_append, List.length_take, List.length_drop]
      omega
    have hsz : w'.heap.size = w.heap.size := by rw [hw']; simp [World.setRow, size_setCellsR]
    have hoth : ∀ k, k ≠ g → w'.heap[k]? = w.heap[k]? := fun k hk => by
      rw [hw', setRow_other _ g k _ hk]
      by_cases hlt : k < w.heap.size
      · exact World.heap_setCells_other w.drew g _ _ hlt hk
      · rw [Array.getElem?_eq_none (by rw [size_setCellsR]; show w.heap.size ≤ k; omega), Array.getElem?_eq_none (by omega)]
    refine ⟨_, rfl, ?_, ?_, ?_⟩
    · refine R50_mk (by rw [hl]; omega) hbg (.inl hok) hg' (by rw [hl]; omega) h2 hs' ?_
      rw [hl]
      exact ht'
    · rw [hw']
      exact below_setRow (below_setCellsR g hbg _ _ (below_drew hB)) hbg _
    · exact ⟨by omega, fun k hk hn => hoth k (fun e => hn (by rw [e]; exact hok))⟩
end Go.Proofs.Ytacheoimnckghaa.PT
