-- stats.Histogram
import Derived.Test.YtnfcbhoaebcndaaIter
import Derived.Laws.MakeOwn
import Derived.Test.YtnfcbhoaebcndaaPTx4
import Derived.Test.YtnfcbhoaebcndaaPTx5
namespace Go.Proofs.Ytnfcbhoaebcndaa.PT
open Go.RowKit Go.Shelf Go.Proofs.YtnfcbhoaebcndaaW.PrintWords Go.Proofs.YtnfcbhoaebcndaaW.PrintLast Go.Proofs.YtnfcbhoaebcndaaW.PrintMore Go.Proofs.Ytnfcbhoaebcndaa.Loop
attribute [local go_sem] Oper.semAt_some max2_int min2_int max_two min_two
set_option linter.unusedVariables false
set_option linter.unusedSimpArgs false


def cellsI (l : List Int) : Array Value := (l.map (Value.int .i64)).toArray
def incB : List Int → Bool
  | a :: b :: l => decide (a < b) && incB (b :: l)
  | _ => true
/-- How many of the limits lie at or below n, from the first one on. -/
def bk : List Int → Int → Nat
  | [], _ => 0
  | a :: l, n => if n ≥ a then bk l n + 1 else 0
theorem bk_le : ∀ (l : List Int) (n : Int), bk l n ≤ l.length
  | [], _ => Nat.le_refl _
  | a :: l, n => by unfold bk; split <;> simp <;> have := bk_le l n <;> omega
theorem bk_lt : ∀ (l : List Int) (n : Int) (j : Nat), j < bk l n → n ≥ l.getD j 0
  | [], _, _, h => by simp [bk] at h
  | a :: l, n, 0, h => by unfold bk at h; split at h <;> simp_all
  | a :: l, n, j + 1, h => by
    unfold bk at h
    split at h
    · have := bk_lt l n j (by omega)
      simpa using this
    · omega
theorem bk_at : ∀ (l : List Int) (n : Int), bk l n < l.length → n < l.getD (bk l n) 0
  | [], _, h => by simp at h
  | a :: l, n, h => by
    unfold bk at h ⊢
    split
    · rename_i h1
      rw [if_pos h1] at h
      have := bk_at l n (by simpa using h)
      simpa using this
    · simp; omega
def hStep (lims : List Int) (s : List Int) (p : S45 × Int) : List Int := if p.1.f0 = 1 then s.set (bk lims p.1.f1) (wrap64 (s.getD (bk lims p.1.f1) 0 + p.2)) else s
def hOf (lims : List Int) (l : List (S45 × Int)) : List Int := l.foldl (hStep lims) (List.replicate (lims.length + 1) 0)
theorem hOf_snoc (lims : List Int) (l : List (S45 × Int)) (p : S45 × Int) : hOf lims (l ++ [p]) = hStep lims (hOf lims l) p := by simp [hOf]
theorem hStep_length (lims s : List Int) (p : S45 × Int) : (hStep lims s p).length = s.length := by unfold hStep; split <;> simp
theorem foldl_length (lims : List Int) : ∀ (l : List (S45 × Int)) (s : List Int), (l.foldl (hStep lims) s).length = s.length
  | [], s => rfl
  | p :: l, s => by rw [List.foldl_cons, foldl_length lims l, hStep_length]
theorem hOf_length (lims : List Int) (l : List (S45 × Int)) : (hOf lims l).length = lims.length + 1 := by unfold hOf; rw [foldl_length]; simp
theorem incB_at : ∀ (l : List Int) (i : Nat), incB l = true → i + 1 < l.length → l.getD i 0 < l.getD (i + 1) 0
  | a :: b :: l, 0, h, _ => by simp [incB] at h; simpa using h.1
  | a :: b :: l, i + 1, h, hi => by
    simp only [incB, Bool.and_eq_true] at h
    have := incB_at (b :: l) i h.2 (by simpa using hi)
    simpa using this
theorem incB_of : ∀ (l : List Int), (∀ i, i + 1 < l.length → l.getD i 0 < l.getD (i + 1) 0) → incB l = true
  | [], _ => rfl
  | [a], _ => rfl
  | a :: b :: l, h => by
    simp only [incB, Bool.and_eq_true, decide_eq_true_eq]
    exact ⟨by simpa using h 0 (by simp), incB_of (b :: l) (fun i hi => by simpa using h (i + 1) (by simpa using hi))⟩
theorem made_zeros (n : Nat) : madeCells (Value.int .i64 0).cells (n * 1) = cellsI (List.replicate n 0) := by
  unfold madeCells cellsI
  rw [Nat.mul_one]
  apply Array.ext
  · simp
  · intro i h1 h2
    simp [Value.cells, Nat.mod_one]
theorem szI : (Kd.int .i64).sz = 1 := rfl
theorem ci_cell {w : World} {A : Option Addr} {l : List Int} (h : Kd.C (Kd.int .i64) w A l.length l) (j : Nat) (hj : j < l.length) : ∃ ad, A = some ad ∧ w.cell? (ad.add j) = some (.int .i64 (l.getD j 0)) := by
  obtain ⟨ad, e, hc⟩ := h.2.2 (by omega)
  have hx : l[j]? = some (l.getD j 0) := by simp [hj]
  obtain ⟨c, hl, hk, hcell⟩ := hc j _ hx
  have hk' : c = [.int .i64 (l.getD j 0)] := hk
  subst hk'
  have := hcell 0 _ rfl
  exact ⟨ad, e, by simpa [szI] using this⟩
theorem R_cells {w : World} {base g : Nat} {l : List Int} (hb : base ≤ g) (hg : w.heap[g]? = some (.cells (cellsI l) 3 (0, 0))) (hl : l.length ≤ maxLen) :
    Kd.R (Kd.int .i64) 3 w base (fun _ => True) (.slice (some ⟨g, 0, none⟩) l.length l.length) l := by
  refine ⟨fun k hk => trivial, l.map (Value.int .i64), ⟨by simp [szI], .inr ⟨g, l.length, cellsI l, rfl, hb, hg, Nat.le_refl _, hl, by simp [cellsI, szI], by simp only [cellsI, szI, Nat.mul_one]; exact List.take_of_length_le (by simp)⟩⟩, ⟨by simp [szI], fun j p h => ?_⟩⟩
  have hj := (List.getElem?_eq_some_iff.1 h).1
  have hp := (List.getElem?_eq_some_iff.1 h).2
  show _ = _
  simp [szI, List.drop_eq_getElem_cons (show j < (l.map (Value.int .i64)).length by simpa using hj), hp]

theorem cells_set (l : List Int) (m : Nat) (v : Int) : (cellsI l).setIfInBounds m (.int .i64 v) = cellsI (l.set m v) := by
  simp [cellsI, List.map_set]
theorem keepsFrom_at {B b : Nat} (W : World) (N j : Nat) (v : Value) (h : True := trivial) : KeepsFrom B W ((W.drewN N).setCell ⟨b, j, none⟩ v) :=
  ⟨(KeepsWalks.setCell (W.drewN N) _ v).size, ((KeepsOthers.setCell (W.drewN N) ⟨b, j, none⟩ v).from B).same⟩
theorem keepsB_at {n₀ B b : Nat} (W : World) (N j : Nat) (hn : n₀ ≤ b) (hb : b < B) (v : Value) : KeepsB n₀ B W ((W.drewN N).setCell ⟨b, j, none⟩ v) :=
  ⟨(pw_below_drewN (Below.refl _ W) N).setCell (p := ⟨b, j, none⟩) hn v, fun k o hk h _ => (Below.heap_setCell (W.drewN N) ⟨b, j, none⟩ v k (fun e => by have : k = b := e; omega)).trans h⟩
theorem box_at {W : World} {b b' : Nat} {t : TypeId} {u : Value} (h : Boxed W b t u) (hne : b ≠ b') (N j : Nat) (v : Value) : Boxed ((W.drewN N).setCell ⟨b', j, none⟩ v) b t u :=
  (Below.heap_setCell (W.drewN N) ⟨b', j, none⟩ v b (fun e => hne e)).trans h
def hAct (A : Option Addr) (c : Nat) (xs : List S57) (A1 : Option Addr) (c1 : Nat) (ls : List Int) (from_ te : Int) (b g j Bx : Nat) (u8 u9 u29 u30 u31 u32 u33 u34 u35 u36 u37 u38 u39 u40 : Value) (x : S45 × Int) : Act :=
  { tmps := #[.slice A xs.length c, .slice A1 ls.length c1, .int .i64 from_, .int .i64 te, undef, .pointer (some ⟨b, 0, none⟩), undef, undef, u8, u9, .int .i64 0, .int .i64 ((j : Int) + 1), .int .i64 0, .pointer (some ⟨g + 1, 0, none⟩), .pointer (some ⟨Bx, 0, none⟩), .int .i64 x.2, undef, .slice A xs.length c, .int .i64 0, .int .i64 0, .bool false, undef, .slice A1 ls.length c1, .int .i64 ls.length, .bool (decide (64 < (ls.length : Int))), .int .i64 ((j : Int) + 1), .slice A1 ls.length c1, .int .i64 ls.length, .bool false, u29, u30, u31, u32, u33, u34, u35, u36, u37, u38, u39, u40, .int .i64 from_, .int .i64 te, .int .i64 0, .int .i64 0, .bool false, undef, .slice A1 ls.length c1, .int .i64 ls.length, .int .i64 ((ls.length : Int) + 1), .slice (some ⟨g, 0, none⟩) (ls.length + 1) (ls.length + 1), .slice A xs.length c, .int .i64 from_, .int .i64 te, .func (.func 54) #[] #[.pointer (some ⟨g + 1 + 1 + 1, 0, none⟩), .pointer (some ⟨g + 1 + 1, 0, none⟩), .pointer (some ⟨g + 1 + 1 + 2, 0, none⟩)], .agg #[.int .i64 x.1.f0, .int .i64 x.1.f1], .int .i64 x.2, undef, undef, undef, undef, undef, undef, undef, undef, undef, undef, undef, undef, undef, undef, undef, undef, undef, undef, undef, undef, undef, undef, undef, undef, undef, undef], defers := [] }
def HPost (lims : List Int) (ps : List (S45 × Int)) (s0 : Int) (w : World) (e : Ending) (w' : World) : Prop :=
  ∃ v0, (if incB lims = true then if s0 = 0 then e = .returned (.tuple #[v0, .int .i64 0]) ∧ Kd.R (Kd.int .i64) 3 w' w.heap.size (fun _ => True) v0 (hOf lims ps)
      else e = .returned (.tuple #[v0, .int .i64 s0]) ∧ Kd.R (Kd.int .i64) 3 w' w.heap.size (fun _ => True) v0 []
    else e = .returned (.tuple #[v0, .int .i64 5]) ∧ Kd.R (Kd.int .i64) 3 w' w.heap.size (fun _ => True) v0 []) ∧ Below w.heap.size w w'

set_option maxRecDepth 100000 in
set_option maxHeartbeats 4000000 in
theorem hist_main (k : Nat) (A : Option Addr) (c : Nat) (xs : List S57) (A1 : Option Addr) (c1 : Nat) (ls : List Int) (from_ te s0 : Int) (hlen : xs.length ≤ 4611686018427387904) (hls : ls.length ≤ 64) (w : World) (hC : Kd.C k57 w A xs.length xs) (hc : xs.length ≤ c)
    (hC1 : Kd.C (Kd.int .i64) w A1 ls.length ls) (hk : stats_Check.f k xs = some 0) (hs : stats_span.f k from_ te = some s0) :
    CallsIn Fence.wide 9 Try.prog 13 #[.slice A xs.length c, .slice A1 ls.length c1, .int .i64 from_, .int .i64 te] w (HPost ls (pcs te ⟨0, 0⟩ from_ xs) s0 w) := by
  have hch := fun W (h : Below w.heap.size w W) => (callsIn_wide (n := 8)).2 (stats_Check.calls k A c xs 0 W (Kd.C_below hC h) hc hk)
  have hsp := fun W => (callsIn_wide (n := 8)).2 (stats_span.calls k from_ te s0 W hs)
  have HCH := Lib.hid hch
  have HSP := Lib.hid hsp
  have HK := Lib.hid hk
  have HS := Lib.hid hs
  have HC := Lib.hid hC
  have HC1 := Lib.hid hC1
  clear hch hk hsp hs hC hC1
  obtain ⟨i0, hi0, hz0, hz1, hz2⟩ := info_parts info3
  have h0 : Below w.heap.size w (w.alloc (.cells #[.slice A1 ls.length c1] 23)) := (Below.refl _ w).alloc (Nat.le_refl _) _
  have H0 := Lib.hid h0
  clear h0
  refine callsIn_of_wp_marks Try.func13 rfl trivial ?_ rfl
  simp only [Try.ntmps13, List.size_toArray, List.length_cons, List.length_nil, Nat.reduceAdd, Nat.reduceSub, Array.replicate_succ, Array.replicate_zero, List.push_toArray, List.append_toArray, List.nil_append, List.cons_append]
  gi_wp2
  refine ⟨trivial, ?_⟩
  refine (HCH.out _ H0.out).mono ?_
  rintro e w' ⟨rfl, hw'⟩
  have s0' : (w.alloc (.cells #[.slice A1 ls.length c1] 23)).heap.size = w.heap.size + 1 := by simp
  have bx : Boxed w' w.heap.size 23 (.slice A1 ls.length c1) := (hw'.block _ (by omega)).trans (Boxed.new w 23 _)
  have hb' : Below w.heap.size w w' := H0.out.trans (hw'.mono (by omega))
  have hsz : w.heap.size + 1 ≤ w'.heap.size := by have := hw'.size; omega
  clear hw' s0' H0 HCH
  have cx := bx.cell
  gi_wp2
  gi_loopw [11] (fun i wr => ∃ j : Nat, i = .int .i64 ((j : Int) + 1) ∧ (j ≤ ls.length ∧ (∀ t, t < j → t + 1 < ls.length → ls.getD t 0 < ls.getD (t + 1) 0)) ∧ Boxed wr w.heap.size 23 (.slice A1 ls.length c1) ∧ Below w.heap.size w wr ∧ w.heap.size + 1 ≤ wr.heap.size) (fun i _ => ls.length + 1 - (intOf i).toNat)
  case atStart => exact ⟨0, rfl, ⟨Nat.zero_le _, fun t h => absurd h (Nat.not_lt_zero _)⟩, bx, hb', hsz⟩
  case round =>
    clear cx bx hb' hsz w'
    obtain ⟨j, rfl, ⟨hj, hinc⟩, bx, hb', hsz⟩ := hrel
    have HINC := Lib.hid hinc
    clear hinc
    have cx := bx.cell
    by_cases hlt : j + 1 < ls.length
    · obtain ⟨ad, rfl, r0⟩ := ci_cell (Kd.C_below HC1.out hb') j (by omega)
      obtain ⟨ad', e', r1⟩ := ci_cell (Kd.C_below HC1.out hb') (j + 1) hlt
      cases e'
      have hlt' : (j : Int) + 1 < ls.length := by omega
      have e1 : IntKind.i64.wrap ((j : Int) + 1 - 1) = j := by rw [IntKind.wrap_i64]; omega
      have e2 : ((j : Int) + 1).toNat = j + 1 := by omega
      obtain ⟨p, hp⟩ : ∃ p, ls.getD j 0 = p := ⟨_, rfl⟩
      obtain ⟨q, hq⟩ : ∃ q, ls.getD (j + 1) 0 = q := ⟨_, rfl⟩
      rw [hp] at r0
      rw [hq] at r1
      have HP := Lib.hid hp
      have HQ := Lib.hid hq
      clear hp hq
      replace r1 : wr.cell? ⟨ad.block, ad.off + (j + 1), none⟩ = some (.int .i64 q) := r1
      by_cases hge : p ≥ q
      · gi_wp2
        gi_quiet (fail)
        gi_wp2
        have hi : incB ls = false := by
          cases hb : incB ls with
          | false => rfl
          | true => have := incB_at ls j hb hlt; rw [HP.out, HQ.out] at this; omega
        refine ⟨.tuple #[.slice none 0 0, .int .i64 5], by simp [results, Try.f13, go_sem], .slice none 0 0, ?_, pw_below_drewN hb' nq⟩
        rw [hi]
        exact ⟨rfl, Kd.R_nil _ _ _ _ _⟩
      · have hlt2 : p < q := by omega
        gi_wp2
        gi_quiet (fail)
        gi_wp2
        go_roundw
        case rel =>
          refine ⟨j + 1, by go_num, ⟨by omega, fun t ht h2 => ?_⟩, bx, pw_below_drewN hb' nq, hsz⟩
          by_cases e : t = j
          · subst e; rw [HP.out, HQ.out]; exact hlt2
          · exact HINC.out t (by omega) h2
        case measure => simp [intOf]; omega
    · have hge : ¬ (j : Int) + 1 < ls.length := by omega
      have hi : incB ls = true := incB_of ls (fun i hi => HINC.out i (by omega) hi)
      have HI := Lib.hid hi
      clear hi HINC
      gi_wp2
      refine ⟨trivial, ?_⟩
      refine (HSP.out _).mono ?_
      rintro e w' ⟨rfl, hdr⟩
      have b1 : Boxed w' w.heap.size 23 (.slice A1 ls.length c1) := (hdr.below.block _ bx.lt).trans bx
      have hb1 : Below w.heap.size w w' := hb'.trans (hdr.below.mono hb'.size)
      have hs1 : w.heap.size + 1 ≤ w'.heap.size := by have := hdr.below.size; omega
      clear bx hb' hsz hdr cx wr
      have c1' := b1.cell
      by_cases h0 : s0 = 0
      · subst h0
        have hmk := fun W => run_make (P := Try.prog) W 28 3 i0 (.int .i64 0) Try.underlying28 hi0 hz0 .i64 .i64 ((ls.length : Int) + 1) ((ls.length : Int) + 1) (by omega) (by omega) (by rw [hz2]; omega) (by omega)
        simp only [hz1, show ((ls.length : Int) + 1).toNat = ls.length + 1 by omega, made_zeros] at hmk
        gi_wp2
        refine ⟨trivial, ?_⟩
        obtain ⟨g, hg⟩ : ∃ g, w'.heap.size = g := ⟨_, rfl⟩
        have bl := (b1.alloc (.cells (cellsI (List.replicate (ls.length + 1) 0)) 3)).alloc (.cells #[.slice (some ⟨g, 0, none⟩) (ls.length + 1) (ls.length + 1)] 28)
        have bo := Boxed.new (w'.alloc (.cells (cellsI (List.replicate (ls.length + 1) 0)) 3)) 28 (.slice (some ⟨g, 0, none⟩) (ls.length + 1) (ls.length + 1))
        have bg := (Below.heap_alloc (w'.alloc (.cells (cellsI (List.replicate (ls.length + 1) 0)) 3)) (.cells #[.slice (some ⟨g, 0, none⟩) (ls.length + 1) (ls.length + 1)] 28) w'.heap.size (by simp)).trans (World.alloc_heap_new w' (.cells (cellsI (List.replicate (ls.length + 1) 0)) 3))
        have hb2 := (hb1.alloc (by omega) (.cells (cellsI (List.replicate (ls.length + 1) 0)) 3)).alloc (by simp; omega) (.cells #[.slice (some ⟨g, 0, none⟩) (ls.length + 1) (ls.length + 1)] 28)
        have hs2 : ((w'.alloc (.cells (cellsI (List.replicate (ls.length + 1) 0)) 3)).alloc (.cells #[.slice (some ⟨g, 0, none⟩) (ls.length + 1) (ls.length + 1)] 28)).heap.size = g + 1 + 1 := by simp; omega
        simp only [World.size_alloc] at bo
        rw [hg] at bo bg hs1 ⊢
        obtain ⟨w0, hw0⟩ : ∃ w0, (w'.alloc (.cells (cellsI (List.replicate (ls.length + 1) 0)) 3)).alloc (.cells #[.slice (some ⟨g, 0, none⟩) (ls.length + 1) (ls.length + 1)] 28) = w0 := ⟨_, rfl⟩
        rw [hw0] at bl bo bg hb2 hs2 ⊢
        clear hw0 b1 hb1 c1' hg hmk
        clear w'
        refine (pieces_in _ _ _ _ _ _ _).mono ?_
        rintro e w' ⟨rfl, rfl⟩
        gi_wp2
        have bL := ((Boxed.new w0 22 (.slice A xs.length c)).alloc (.cells #[.int .i64 from_] 3)).alloc (.cells #[.int .i64 te] 3)
        have bF := (Boxed.new (w0.alloc (.cells #[.slice A xs.length c] 22)) 3 (.int .i64 from_)).alloc (.cells #[.int .i64 te] 3)
        have bT := Boxed.new ((w0.alloc (.cells #[.slice A xs.length c] 22)).alloc (.cells #[.int .i64 from_] 3)) 3 (.int .i64 te)
        simp only [World.size_alloc] at bF bT
        rw [Nat.add_assoc] at bT
        have bl2 := ((bl.alloc (.cells #[.slice A xs.length c] 22)).alloc (.cells #[.int .i64 from_] 3)).alloc (.cells #[.int .i64 te] 3)
        have bo2 := ((bo.alloc (.cells #[.slice A xs.length c] 22)).alloc (.cells #[.int .i64 from_] 3)).alloc (.cells #[.int .i64 te] 3)
        have bg2 : (((w0.alloc (.cells #[.slice A xs.length c] 22)).alloc (.cells #[.int .i64 from_] 3)).alloc (.cells #[.int .i64 te] 3)).heap[g]? = some (.cells (cellsI (List.replicate (ls.length + 1) 0)) 3 (0, 0)) :=
          (Below.heap_alloc _ _ g (by simp; omega)).trans ((Below.heap_alloc _ _ g (by simp; omega)).trans ((Below.heap_alloc _ _ g (by omega)).trans bg))
        have hb3 := ((hb2.alloc (by omega) (.cells #[.slice A xs.length c] 22)).alloc (by simp; omega) (.cells #[.int .i64 from_] 3)).alloc (by simp; omega) (.cells #[.int .i64 te] 3)
        have s3 : (((w0.alloc (.cells #[.slice A xs.length c] 22)).alloc (.cells #[.int .i64 from_] 3)).alloc (.cells #[.int .i64 te] 3)).heap.size = g + 5 := by simp; omega
        obtain ⟨w1, hw1⟩ : ∃ w1, ((w0.alloc (.cells #[.slice A xs.length c] 22)).alloc (.cells #[.int .i64 from_] 3)).alloc (.cells #[.int .i64 te] 3) = w1 := ⟨_, rfl⟩
        rw [hw1] at bL bF bT bl2 bo2 bg2 hb3 s3 ⊢
        rw [hs2] at bL bF bT
        clear hw1 bl bo bg hb2 hs2
        clear w0
        refine range_own rfl (by omega) (gf := 54) rfl trivial (enters_of Try.func54 (by kernel_rfl) rfl) (by omega) (M := g + 1 + 1) (by omega)
          (pieces_gives 8 (by omega) (g + 1 + 1) w.heap.size (g + 1 + 1) A c xs from_ te hlen w w1 rfl hb3 HC.out (Nat.le_refl _) bL bF bT) (fun _ => rfl)
          (fun pre W => ((Boxed W w.heap.size 23 (.slice A1 ls.length c1) ∧ Boxed W (g + 1) 28 (.slice (some ⟨g, 0, none⟩) (ls.length + 1) (ls.length + 1))) ∧ W.heap[g]? = some (.cells (cellsI (hOf ls pre)) 3 (0, 0))) ∧ Below w.heap.size w W)
          (fun _ _ _ => False)
          (OwnB.and (OwnB.and (OwnB.and (OwnB.box (by omega) _ _) (OwnB.box (by omega) _ _)) (fun s W W' row hs hg hr => (hg.block _ (Array.getElem?_eq_some_iff.1 hs).1 (fun e => by have := hr _ e.symm; omega)).trans hs)) (OwnB.below (Nat.le_refl _) (by omega)))
          (fun _ _ _ _ _ hs _ _ => hs)
          ⟨⟨⟨bl2, bo2⟩, bg2⟩, hb3⟩
          (fun x a' W => ∃ Bx, g + 5 ≤ Bx ∧ W.heap[Bx]? = some (.cells #[.int .i64 x.1.f0, .int .i64 x.1.f1] 45 (0, 0)) ∧ a' = hAct A c xs A1 c1 ls from_ te w.heap.size g j Bx u8 u9 u29 u30 u31 u32 u33 u34 u35 u36 u37 u38 u39 u40 x)
          (fun x a' _ X Y row hs hg hr => by
            obtain ⟨Bx, h1, h2, h3⟩ := hs
            exact ⟨Bx, h1, (hg.block _ (Array.getElem?_eq_some_iff.1 h2).1 (fun e => by obtain ⟨_, o, ho, hc⟩ := hr _ e.symm; rw [h2] at ho; cases ho; cases hc)).trans h2, h3⟩)
          ?assign ?body ?done ?stop
        case assign =>
          rintro l pre x W K hsz ⟨⟨⟨b1, b2⟩, b3⟩, hB⟩ hK
          dsimp only [encP]
          gi_wp2
          exact hK _ _ ((KeepsOthers.alloc _ _).from _) (KeepsB.alloc (by omega) _) ⟨⟨⟨b1.alloc _, b2.alloc _⟩, (Below.heap_alloc _ _ g (by omega)).trans b3⟩, hB.alloc (by omega) _⟩ ⟨W.heap.size, by omega, World.alloc_heap_new W _, rfl⟩
        case body =>
          rintro l pre x a' W hsz ⟨⟨⟨b1, b2⟩, b3⟩, hB⟩ ⟨Bx, hBx, hX, rfl⟩ hlt
          have hm : Try.prog.follows .mixedOrders = true := by kernel_rfl
          have d1 := b1.cell
          have d2 := b2.cell
          obtain ⟨x0, x1, _, _⟩ := pair_cell hX
          have HX := Lib.hid hX
          clear hX
          dsimp only [hAct]
          by_cases hk : x.1.f0 = 1
          · have hbk := bk_le ls x.1.f1
            gi_wp2
            gi_loopw [16] (fun i wr => ∃ i2 : Nat, i = .int .i64 i2 ∧ i2 ≤ bk ls x.1.f1 ∧ ∃ q, wr = W.drewN q) (fun i _ => ls.length - (intOf i).toNat)
            case atStart => exact ⟨0, rfl, Nat.zero_le _, 0, rfl⟩
            case round =>
              obtain ⟨i2, rfl, hi2, q, rfl⟩ := hrel
              by_cases hin : i2 < bk ls x.1.f1
              · have hlt2 : i2 < ls.length := by omega
                have hlt3 : (i2 : Int) < ls.length := by omega
                obtain ⟨ad, rfl, r0⟩ := ci_cell (Kd.C_below HC1.out hB) i2 hlt2
                have hge := bk_lt ls x.1.f1 i2 hin
                obtain ⟨p, hp⟩ : ∃ p, ls.getD i2 0 = p := ⟨_, rfl⟩
                rw [hp] at r0 hge
                clear hp
                gi_wp2
                refine quiet_round hm (by kernel_rfl) (by kernel_rfl) ?_
                repeat (gi_big_quiet_step (fail))
                refine wpQuietIn_nil ?_
                intro _ hw'
                obtain ⟨nq, hw''⟩ := hw'
                subst hw''
                gi_wp2
                go_roundw
                case rel => exact ⟨i2 + 1, by go_num, by omega, q + nq, rfl⟩
                case measure => simp [intOf]; omega
              · obtain rfl : i2 = bk ls x.1.f1 := by omega
                have e1 : hOf ls (pre ++ [x]) = (hOf ls pre).set (bk ls x.1.f1) (wrap64 ((hOf ls pre).getD (bk ls x.1.f1) 0 + x.2)) := by rw [hOf_snoc]; unfold hStep; rw [if_pos hk]
                have hlen' := hOf_length ls pre
                obtain ⟨hs, hhs⟩ : ∃ hs, hOf ls pre = hs := ⟨_, rfl⟩
                rw [hhs] at e1 hlen' b3
                obtain ⟨m, hm'⟩ : ∃ m, bk ls x.1.f1 = m := ⟨_, rfl⟩
                have hat := bk_at ls x.1.f1
                rw [hm'] at e1 hbk hat ⊢
                have E1 := Lib.hid e1
                have B3 := Lib.hid b3
                have HLN := Lib.hid hlen'
                have hg0 : W.cell? ⟨g, m, none⟩ = some (.int .i64 (hs.getD m 0)) := by simp [World.cell?, b3, cellsI, show m < hs.length by omega]
                have hg1 : W.frozen? ⟨g, m, none⟩ = false := by simp [World.frozen?, b3]
                obtain ⟨old, hold⟩ : ∃ old, hs.getD m 0 = old := ⟨_, rfl⟩
                rw [hold] at hg0
                have HOLD := Lib.hid hold
                have HHS := Lib.hid hhs
                have HM := Lib.hid hm'
                clear e1 b3 hlen' hold hhs hm' hin hi2
                by_cases hml : m < ls.length
                · have hlt3 : (m : Int) < ls.length := by omega
                  obtain ⟨ad, rfl, r0⟩ := ci_cell (Kd.C_below HC1.out hB) m hml
                  have hlt4 := hat hml
                  obtain ⟨p, hp⟩ : ∃ p, ls.getD m 0 = p := ⟨_, rfl⟩
                  rw [hp] at r0 hlt4
                  clear hp hat
                  gi_wp2
                  refine quiet_round hm (by kernel_rfl) (by kernel_rfl) ?_
                  repeat (gi_big_quiet_step (fail))
                  refine wpQuietIn_nil ?_
                  intro _ hw'
                  obtain ⟨nq, hw''⟩ := hw'
                  subst hw''
                  gi_wp2
                  refine ⟨keepsFrom_at W _ _ _, keepsB_at W _ _ (by omega) (by omega) _, ⟨⟨box_at b1 (by omega) _ _ _, box_at b2 (by omega) _ _ _⟩, ?_⟩, (hB.trans (keepsB_at (B := g + 1 + 1) W (q + nq) m (by omega) (by omega) (.int .i64 (wrap64 (old + x.2)))).below)⟩
                  have h3 := one_set (W := W.drewN (q + nq)) B3.out m (.int .i64 (wrap64 (old + x.2)))
                  rw [cells_set] at h3
                  rw [E1.out, HOLD.out]
                  exact h3
                · have hge3 : ¬ (m : Int) < ls.length := by omega
                  clear hat
                  gi_wp2
                  refine quiet_round hm (by kernel_rfl) (by kernel_rfl) ?_
                  repeat (gi_big_quiet_step (fail))
                  refine wpQuietIn_nil ?_
                  intro _ hw'
                  obtain ⟨nq, hw''⟩ := hw'
                  subst hw''
                  gi_wp2
                  refine ⟨keepsFrom_at W _ _ _, keepsB_at W _ _ (by omega) (by omega) _, ⟨⟨box_at b1 (by omega) _ _ _, box_at b2 (by omega) _ _ _⟩, ?_⟩, (hB.trans (keepsB_at (B := g + 1 + 1) W (q + nq) m (by omega) (by omega) (.int .i64 (wrap64 (old + x.2)))).below)⟩
                  have h3 := one_set (W := W.drewN (q + nq)) B3.out m (.int .i64 (wrap64 (old + x.2)))
                  rw [cells_set] at h3
                  rw [E1.out, HOLD.out]
                  exact h3
          · have e1 : hOf ls (pre ++ [x]) = hOf ls pre := by rw [hOf_snoc]; unfold hStep; rw [if_neg hk]
            have E1 := Lib.hid e1
            clear e1
            gi_wp2
            exact ⟨KeepsFrom.refl _ _, KeepsB.refl _ _ _, by dsimp only; rw [E1.out]; exact ⟨⟨⟨b1, b2⟩, b3⟩, hB⟩⟩
        case done =>
          rintro D ys W hD rfl ⟨⟨⟨b1, b2⟩, b3⟩, hB⟩ hK
          have d2 := b2.cell
          gi_wp2
          refine ⟨by simp, .inl ⟨_, _, rfl, run_takeDeferred hK, ?_⟩⟩
          have hl := hOf_length ls (pcs te ⟨0, 0⟩ from_ xs)
          have hne : g ≠ D := by omega
          have b4 : (W.putObj D (.deferred none)).heap[g]? = some (.cells (cellsI (hOf ls (pcs te ⟨0, 0⟩ from_ xs))) 3 (0, 0)) := (World.putObj_heap_other hne).trans b3
          refine ⟨.tuple #[.slice (some ⟨g, 0, none⟩) (ls.length + 1) (ls.length + 1), .int .i64 0], by simp [results, Try.f13, go_sem], .slice (some ⟨g, 0, none⟩) (ls.length + 1) (ls.length + 1), ?_, hB.trans (belowK_b (w := w) (Nat.le_refl _) W D _ _ (by omega) hK rfl rfl)⟩
          rw [HI.out, if_pos rfl, if_pos rfl]
          refine ⟨rfl, ?_⟩
          have := R_cells (base := w.heap.size) (by omega) b4 (by rw [hl]; unfold maxLen; omega)
          rw [hl] at this
          exact this
        case stop =>
          rintro D c pre W _ _ h _
          exact h.elim
      · have hne : (s0 == 0) = false := by simpa using h0
        gi_wp2
        refine ⟨.tuple #[.slice none 0 0, .int .i64 s0], by simp [results, Try.f13, go_sem], .slice none 0 0, ?_, hb1⟩
        rw [HI.out, if_pos rfl, if_neg h0]
        exact ⟨rfl, Kd.R_nil _ _ _ _ _⟩

set_option maxRecDepth 100000 in
set_option maxHeartbeats 1000000 in
theorem hist_err (k : Nat) (A : Option Addr) (c : Nat) (xs : List S57) (A1 : Option Addr) (c1 : Nat) (ls : List Int) (from_ te r : Int) (hlm : (ls.length : Int) ≤ 9223372036854775807) (w : World) (hC : Kd.C k57 w A xs.length xs) (hc : xs.length ≤ c)
    (hk : stats_Check.f k xs = some r) (hr : r ≠ 0 ∨ 64 < ls.length) :
    CallsIn Fence.wide 9 Try.prog 13 #[.slice A xs.length c, .slice A1 ls.length c1, .int .i64 from_, .int .i64 te] w fun e w' =>
      e = .returned (.tuple #[.slice none 0 0, .int .i64 (if r = 0 then 7 else r)]) ∧ Below w.heap.size w w' := by
  have hch := fun W (h : Below w.heap.size w W) => (callsIn_wide (n := 8)).2 (stats_Check.calls k A c xs r W (Kd.C_below hC h) hc hk)
  have HCH := Lib.hid hch
  have HK := Lib.hid hk
  clear hch hk
  have h0 : Below w.heap.size w (w.alloc (.cells #[.slice A1 ls.length c1] 23)) := (Below.refl _ w).alloc (Nat.le_refl _) _
  have H0 := Lib.hid h0
  clear h0
  by_cases hr0 : r = 0
  · subst hr0
    rw [if_pos rfl]
    have hl : 64 < ls.length := by rcases hr with h | h; exact absurd rfl h; exact h
    have hl' : (64 : Int) < ls.length := by omega
    refine callsIn_of_wp Try.func13 rfl trivial ?_ rfl
    simp only [Try.ntmps13, List.size_toArray, List.length_cons, List.length_nil, Nat.reduceAdd, Nat.reduceSub, Array.replicate_succ, Array.replicate_zero, List.push_toArray, List.append_toArray, List.nil_append, List.cons_append]
    gi_wp2
    refine ⟨trivial, ?_⟩
    refine (HCH.out _ H0.out).mono ?_
    rintro e w' ⟨rfl, hw'⟩
    have s0' : (w.alloc (.cells #[.slice A1 ls.length c1] 23)).heap.size = w.heap.size + 1 := by simp
    have bx : Boxed w' w.heap.size 23 (.slice A1 ls.length c1) := (hw'.block _ (by omega)).trans (Boxed.new w 23 _)
    have hb' : Below w.heap.size w w' := H0.out.trans (hw'.mono (by omega))
    clear hw' s0' H0 HCH
    have cx := bx.cell
    gi_wp2
    exact bodyPost_ret (v := .tuple #[.slice none 0 0, .int .i64 7]) (by simp [results, Try.f13, go_sem]) rfl ⟨rfl, hb'⟩
  · rw [if_neg hr0]
    have hr' : (r == 0) = false := by simpa using hr0
    refine callsIn_of_wp Try.func13 rfl trivial ?_ rfl
    simp only [Try.ntmps13, List.size_toArray, List.length_cons, List.length_nil, Nat.reduceAdd, Nat.reduceSub, Array.replicate_succ, Array.replicate_zero, List.push_toArray, List.append_toArray, List.nil_append, List.cons_append]
    gi_wp2
    refine ⟨trivial, ?_⟩
    refine (HCH.out _ H0.out).mono ?_
    rintro e w' ⟨rfl, hw'⟩
    have s0' : (w.alloc (.cells #[.slice A1 ls.length c1] 23)).heap.size = w.heap.size + 1 := by simp
    have hb' : Below w.heap.size w w' := H0.out.trans (hw'.mono (by omega))
    clear hw' s0' H0 HCH
    gi_wp2
    exact bodyPost_ret (v := .tuple #[.slice none 0 0, .int .i64 r]) (by simp [results, Try.f13, go_sem]) rfl ⟨rfl, hb'⟩

def stats_Histogram.f (k : Nat) (l0 : List (S57)) (l1 : List Int) (a2 : Int) (a3 : Int) : Option (List Int × Int) :=
  if l0.length ≤ 4611686018427387904 ∧ l1.length ≤ 4611686018427387904 then (stats_Check.f k l0).bind fun e => if e ≠ 0 then some ([], e) else if 64 < l1.length then some ([], 7) else
    (stats_span.f k a2 a3).bind fun s => if incB l1 = true then (if s = 0 then some (hOf l1 (pcs a3 ⟨0, 0⟩ a2 l0), 0) else some ([], s)) else some ([], 5) else none
theorem stats_Histogram.calls (k : Nat) (A0 : Option Addr) (c0 : Nat) (l0 : List (S57)) (A1 : Option Addr) (c1 : Nat) (l1 : List Int) (a2 : Int) (a3 : Int) (r1 : List Int) (r2 : Int) (w : World) (hr0 : Kd.C k57 w A0 l0.length l0) (hc0 : l0.length ≤ c0) (hr1 : Kd.C (Kd.int .i64) w A1 l1.length l1) (hc1 : l1.length ≤ c1) (h : stats_Histogram.f k l0 l1 a2 a3 = some (r1, r2)) :
    Calls Try.prog 13 #[.slice A0 l0.length c0, .slice A1 l1.length c1, .int .i64 a2, .int .i64 a3] w fun e w' => ∃ v0_ : Value, e = .returned (.tuple #[v0_, .int .i64 r2]) ∧ Kd.R (Kd.int .i64) 3 w' w.heap.size (fun _ => True) v0_ r1 ∧ Below w.heap.size w w' := by
  unfold stats_Histogram.f at h
  by_cases hl : l0.length ≤ 4611686018427387904 ∧ l1.length ≤ 4611686018427387904
  · rw [if_pos hl] at h
    obtain ⟨e, he, h⟩ := Option.bind_eq_some_iff.1 h
    by_cases h0 : e ≠ 0
    · rw [if_pos h0] at h
      cases h
      refine ((callsIn_wide (n := 9)).1 (hist_err k A0 c0 l0 A1 c1 l1 a2 a3 _ (by omega) w hr0 hc0 he (.inl h0))).mono fun e' w' hh => ?_
      rw [if_neg h0] at hh
      exact ⟨_, hh.1, Kd.R_nil _ _ _ _ _, hh.2⟩
    · rw [if_neg h0] at h
      have h0' : e = 0 := Decidable.not_not.1 h0
      subst h0'
      by_cases h6 : 64 < l1.length
      · rw [if_pos h6] at h
        cases h
        refine ((callsIn_wide (n := 9)).1 (hist_err k A0 c0 l0 A1 c1 l1 a2 a3 0 (by omega) w hr0 hc0 he (.inr h6))).mono fun e' w' hh => ?_
        rw [if_pos rfl] at hh
        exact ⟨_, hh.1, Kd.R_nil _ _ _ _ _, hh.2⟩
      · rw [if_neg h6] at h
        obtain ⟨s, hs, h⟩ := Option.bind_eq_some_iff.1 h
        refine ((callsIn_wide (n := 9)).1 (hist_main k A0 c0 l0 A1 c1 l1 a2 a3 s hl.1 (by omega) w hr0 hc0 hr1 he hs)).mono fun e' w' hh => ?_
        obtain ⟨v0, hv, hb⟩ := hh
        refine ⟨v0, ?_⟩
        by_cases hi : incB l1 = true
        · rw [if_pos hi] at h hv
          by_cases h7 : s = 0
          · rw [if_pos h7] at h hv
            cases h
            exact ⟨hv.1, hv.2, hb⟩
          · rw [if_neg h7] at h hv
            cases h
            exact ⟨hv.1, hv.2, hb⟩
        · rw [if_neg hi] at h hv
          cases h
          exact ⟨hv.1, hv.2, hb⟩
  · rw [if_neg hl] at h
    cases h
theorem stats_Histogram.mono : ∀ a0 a1 a2 a3 k, LeO (stats_Histogram.f k a0 a1 a2 a3) (stats_Histogram.f (k + 1) a0 a1 a2 a3) := by
  intro a0 a1 a2 a3 k
  unfold stats_Histogram.f
  repeat' first
    | (with_reducible exact stats_Check.mono _ _)
    | (with_reducible exact stats_span.mono _ _ _)
    | (with_reducible exact LeO.refl _)
    | (with_reducible exact LeO.none _)
    | (with_reducible refine LeO.ite ?_ ?_)
    | (with_reducible refine LeO.bind ?_ (fun _ => ?_))
end Go.Proofs.Ytnfcbhoaebcndaa.PT
