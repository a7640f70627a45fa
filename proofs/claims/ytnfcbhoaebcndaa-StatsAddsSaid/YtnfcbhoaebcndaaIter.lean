-- stats.pieces: the iterator's contract.
import Derived.Test.YtnfcbhoaebcndaaLoop
import Derived.Test.YtnfcbhoaebcndaaPTx0
import Derived.Shelf.RegionOpen
import Derived.TacticsInMore
import Derived.LoopNIn
import Derived.LoopIn
import Derived.Lib.Hide
namespace Go.Proofs.Ytnfcbhoaebcndaa.PT
open Go.RowKit Go.Shelf Go.Proofs.YtnfcbhoaebcndaaW.PrintWords Go.Proofs.YtnfcbhoaebcndaaW.PrintLast Go.Proofs.YtnfcbhoaebcndaaW.PrintMore Go.Proofs.Ytnfcbhoaebcndaa.Loop
attribute [local go_sem] Oper.semAt_some max2_int min2_int max_two min_two
set_option linter.unusedVariables false
set_option linter.unusedSimpArgs false

/-- The pieces of a span, from the instant a on, at which the value is v; the samples l are still te come. -/
def pcs (te : Int) : S45 → Int → List S57 → List (S45 × Int)
  | v, a, [] => [(v, wrap64 (te - a))]
  | v, a, x :: l => if x.f0 ≥ te then [(v, wrap64 (te - a))] else if x.f0 > a then (v, wrap64 (x.f0 - a)) :: pcs te x.f1 (mx a x.f0) l else pcs te x.f1 (mx a x.f0) l
def encP (p : S45 × Int) : Array Value := #[.agg #[.int .i64 p.1.f0, .int .i64 p.1.f1], .int .i64 p.2]

/-- At the head of a round: k samples are done. -/
def PRel (te from_ : Int) (xs : List S57) (J : List (S45 × Int) → World → Prop) (n₀ b5 Bf Bl Bt : Nat) (A : Option Addr) (c : Nat) (W : World) (at_ i : Value) (wr : World) : Prop :=
  ∃ (k : Nat) (v : S45) (a : Int) (pre : List (S45 × Int)), k ≤ xs.length ∧ i = .int .i64 k ∧ at_ = .int .i64 a ∧ pre.length ≤ k ∧ pcs te ⟨0, 0⟩ from_ xs = pre ++ pcs te v a (xs.drop k) ∧ J pre wr ∧
    Boxed wr Bf 3 (.int .i64 from_) ∧ Boxed wr Bl 22 (.slice A xs.length c) ∧ Boxed wr Bt 3 (.int .i64 te) ∧ wr.heap[b5]? = some (.cells #[.int .i64 v.f0, .int .i64 v.f1] 45 (0, 0)) ∧ Below n₀ W wr ∧ W.heap.size < wr.heap.size
theorem pair_cell {W : World} {b : Nat} {x y : Value} {t : TypeId} (h : W.heap[b]? = some (.cells #[x, y] t (0, 0))) : W.cell? ⟨b, 0, none⟩ = some x ∧ W.cell? ⟨b, 1, none⟩ = some y ∧ W.frozen? ⟨b, 0, none⟩ = false ∧ W.frozen? ⟨b, 1, none⟩ = false := by
  simp [World.cell?, World.frozen?, h]

theorem one_set {W : World} {b : Nat} {cs : Array Value} {t : TypeId} (h : W.heap[b]? = some (.cells cs t (0, 0))) (j : Nat) (u : Value) : (W.setCell ⟨b, j, none⟩ u).heap[b]? = some (.cells (cs.setIfInBounds j u) t (0, 0)) := by
  obtain ⟨hlt, hk⟩ := Array.getElem?_eq_some_iff.1 h
  show (W.heap.modify b _)[b]? = _
  rw [Array.getElem?_eq_getElem (by rw [Array.size_modify]; exact hlt), Array.getElem_modify_self, hk]
  rfl
theorem pair_set {W : World} {b : Nat} {x y : Value} {t : TypeId} (h : W.heap[b]? = some (.cells #[x, y] t (0, 0))) (u u' : Value) : ((W.setCell ⟨b, 0, none⟩ u).setCell ⟨b, 1, none⟩ u').heap[b]? = some (.cells #[u, u'] t (0, 0)) :=
  one_set (one_set h 0 u) 1 u'
theorem grown_cell (W : World) (b j : Nat) (u : Value) : W.grownBy (W.setCell ⟨b, j, none⟩ u) (some b) :=
  ⟨rfl, rfl, rfl, (KeepsWalks.setCell W _ u).size, fun k _ hk => Below.heap_setCell _ _ _ k (fun e => hk (by rw [e]))⟩
theorem grown_pair (W : World) (b : Nat) (u u' : Value) : W.grownBy ((W.setCell ⟨b, 0, none⟩ u).setCell ⟨b, 1, none⟩ u') (some b) := by
  have h1 := grown_cell W b 0 u
  have h2 := grown_cell (W.setCell ⟨b, 0, none⟩ u) b 1 u'
  exact ⟨rfl, rfl, rfl, Nat.le_trans h1.size h2.size, fun k hk hn => (h2.block k (Nat.lt_of_lt_of_le hk h1.size) hn).trans (h1.block k hk hn)⟩
theorem grown_drew {W W' : World} {row : Option Nat} (h : W.grownBy W' row) : W.grownBy W'.drew row := ⟨h.os, h.tape, h.output, h.size, h.block⟩

set_option maxRecDepth 100000 in
set_option maxHeartbeats 4000000 in
theorem pieces1_in (n : Nat) (hn : 1 ≤ n) (l Bf Bl Bt n₀ M : Nat) (A : Option Addr) (c : Nat) (xs : List S57) (from_ te : Int) (hlen : xs.length ≤ 4611686018427387904) (J Jx : List (S45 × Int) → World → Prop) (W : World)
    (hn0 : n₀ ≤ W.heap.size) (hM : M ≤ W.heap.size) (hJ : OwnB W.heap.size J) (hf0 : M ≤ Bf) (hl0 : M ≤ Bl) (ht0 : M ≤ Bt)
    (hY : ∀ pre x W1, J pre W1 → pre.length < xs.length + 1 → YieldAt Fence.wide (n - 1) Try.prog l (encP x) W1 fun e W' =>
      (e = .returned (.bool true) ∧ J (pre ++ [x]) W' ∧ KeepsB n₀ M W1 W') ∨ (e = .returned (.bool false) ∧ Jx (pre ++ [x]) W'))
    (hf : Boxed W Bf 3 (.int .i64 from_)) (hl : Boxed W Bl 22 (.slice A xs.length c)) (ht : Boxed W Bt 3 (.int .i64 te)) (hR : ∀ W', Below n₀ W W' → Kd.C k57 W' A xs.length xs) (h0 : J [] W) :
    CallsIn Fence.wide n Try.prog 54 #[.func (.yield l) #[] #[], .pointer (some ⟨Bf, 0, none⟩), .pointer (some ⟨Bl, 0, none⟩), .pointer (some ⟨Bt, 0, none⟩)] W fun e W' => (∃ v, e = .returned v) ∧
      ((∃ ys, ys = pcs te ⟨0, 0⟩ from_ xs ∧ J ys W') ∨ (∃ pre, True ∧ Jx pre W')) := by
  refine callsIn_of_wp Try.func54 rfl trivial ?_ rfl
  simp only [Try.ntmps54, List.size_toArray, List.length_cons, List.length_nil, Nat.reduceAdd, Nat.reduceSub, Array.replicate_succ, Array.replicate_zero, List.push_toArray, List.append_toArray, List.nil_append, List.cons_append]
  have cf := hf.cell
  have cl := hl.cell
  have ct := ht.cell
  have ltf := hf.lt
  have ltl := hl.lt
  have ltt := ht.lt
  gi_wp2
  gi_loopw [6, 12] (fun a i wr => PRel te from_ xs J n₀ W.heap.size Bf Bl Bt A c W a i wr) (fun _ i _ => xs.length - (intOf i).toNat)
  case atStart =>
    refine ⟨0, ⟨0, 0⟩, from_, [], Nat.zero_le _, rfl, rfl, Nat.le_refl _, rfl, ?_, hf.alloc _, hl.alloc _, ht.alloc _, World.alloc_heap_new W _, (Below.refl _ W).alloc hn0 _, by simp⟩
    exact hJ.from.alloc _ h0
  case round =>
    obtain ⟨k, v, a, pre, hk, rfl, rfl, hpl, hpc, hj, bf, bl, bt, bv, hbel, hsz⟩ := hrel
    have cf := bf.cell
    have cl := bl.cell
    have ct := bt.cell
    obtain ⟨cv0, cv1, fv0, fv1⟩ := pair_cell bv
    by_cases hlt : k < xs.length
    · obtain ⟨ad, rfl, x0, x1, x2⟩ := at_T57 (hR wr hbel) (k : Int) (by omega) (by omega)
      obtain ⟨x, hx⟩ : ∃ x, rd_T57 xs (k : Int) = x := ⟨_, rfl⟩
      rw [hx, show ((k : Int)).toNat = k from rfl] at x0 x1 x2
      have hxs : xs.drop k = x :: xs.drop (k + 1) := by
        rw [List.drop_eq_getElem_cons hlt, ← hx]
        simp [rd_T57, hlt]
      have lf := bf.lt
      have ll := bl.lt
      have lt_ := bt.lt
      have ltx := World.block_lt_of_cell? wr _ x0
      have HXS := Lib.hid hxs
      have HPC := Lib.hid hpc
      clear hx hxs hpc hR
      have hs' : (wr.alloc (.cells #[.int .i64 x.f0, .int .i64 x.f1.f0, .int .i64 x.f1.f1] 57)).heap[wr.heap.size]? = some (.cells #[.int .i64 x.f0, .int .i64 x.f1.f0, .int .i64 x.f1.f1] 57 (0, 0)) := World.alloc_heap_new wr _
      have HS := Lib.hid hs'
      clear hs'
      by_cases hge : x.f0 ≥ te
      · obtain ⟨fn, tmps, assign, body, hy, hR⟩ := hY pre (v, wrap64 (te - a)) (wr.alloc (.cells #[.int .i64 x.f0, .int .i64 x.f1.f0, .int .i64 x.f1.f1] 57)) (hJ.from.alloc _ hj) (by omega)
        dsimp only [encP] at hy
        have HP : Hid (pcs te v a (xs.drop k) = [(v, wrap64 (te - a))]) := Lib.hid (by rw [HXS.out]; simp [pcs, hge])
        gi_wp2
        refine hR.mono ?_
        rintro e W3 (⟨rfl, hJ3, hk3⟩ | ⟨rfl, hJx3⟩)
        · gi_wp2
          go_end0
          exact ⟨⟨_, rfl⟩, .inl ⟨_, by rw [HPC.out, HP.out], hJ3⟩⟩
        · gi_wp2
          go_end0
          exact ⟨⟨_, rfl⟩, .inr ⟨_, trivial, hJx3⟩⟩
      · have hlt2 : x.f0 < te := by omega
        by_cases hgt : x.f0 > a
        · obtain ⟨fn, tmps, assign, body, hy, hR⟩ := hY pre (v, wrap64 (x.f0 - a)) (wr.alloc (.cells #[.int .i64 x.f0, .int .i64 x.f1.f0, .int .i64 x.f1.f1] 57)) (hJ.from.alloc _ hj) (by omega)
          dsimp only [encP] at hy
          have HP : Hid (pcs te v a (xs.drop k) = (v, wrap64 (x.f0 - a)) :: pcs te x.f1 x.f0 (xs.drop (k + 1))) := Lib.hid (by rw [HXS.out]; simp only [pcs]; rw [if_neg hge, if_pos hgt]; rw [show mx a x.f0 = x.f0 by unfold mx; omega])
          gi_wp2
          refine hR.mono ?_
          rintro e W3 (⟨rfl, hJ3, hk3⟩ | ⟨rfl, hJx3⟩)
          · have hx3 := hk3.cells _ _ (by omega) HS.out rfl
            have hx4 : W3.cell? ⟨wr.heap.size, 0, none⟩ = some (.int .i64 x.f0) ∧ W3.cell? ⟨wr.heap.size, 1, none⟩ = some (.int .i64 x.f1.f0) ∧ W3.cell? ⟨wr.heap.size, 2, none⟩ = some (.int .i64 x.f1.f1) := by simp [World.cell?, hx3]
            obtain ⟨x30, x31, x32⟩ := hx4
            have hv3 := hk3.cells _ _ (by omega) ((Below.heap_alloc wr _ _ hsz).trans bv) rfl
            obtain ⟨v30, v31, v32, v33⟩ := pair_cell hv3
            have bf3 : Boxed W3 Bf 3 _ := hk3.cells _ _ (by omega) (bf.alloc _) rfl
            have bl3 : Boxed W3 Bl 22 _ := hk3.cells _ _ (by omega) (bl.alloc _) rfl
            have bt3 : Boxed W3 Bt 3 _ := hk3.cells _ _ (by omega) (bt.alloc _) rfl
            have HX3 := Lib.hid hx3
            have HV3 := Lib.hid hv3
            clear hx3 hv3
            gi_wp2
            gi_region
            gi_wp2
            go_roundw
            case rel =>
              have G := grown_drew (grown_pair W3 W.heap.size (.int .i64 x.f1.f0) (.int .i64 x.f1.f1))
              have hB3 : Below n₀ W W3 := (hbel.alloc (by omega) _).trans hk3.below
              refine ⟨k + 1, x.f1, x.f0, pre ++ [(v, wrap64 (x.f0 - a))], by omega, by go_num, rfl, by simp; omega, by rw [HPC.out, HP.out]; simp, hJ _ _ _ _ hJ3 G (fun r e => by cases e; exact Nat.le_refl _), bf3.kept G (by simp; omega), bl3.kept G (by simp; omega), bt3.kept G (by simp; omega), pair_set HV3.out _ _, hB3.grown G (by have := hB3.size; omega) (fun r e => by cases e; exact hn0), ?_⟩
              have := G.size
              have := hk3.below.size
              simp at this ⊢
              omega
            case measure => simp [intOf]; omega
          · gi_wp2
            refine bodyPost_ret (results_none rfl _ _ _) rfl ?_
            exact ⟨⟨_, rfl⟩, .inr ⟨_, trivial, hJx3⟩⟩
        · have hle : x.f0 ≤ a := by omega
          have HP : Hid (pcs te v a (xs.drop k) = pcs te x.f1 a (xs.drop (k + 1))) := Lib.hid (by rw [HXS.out]; simp only [pcs]; rw [if_neg hge, if_neg hgt]; rw [show mx a x.f0 = a by unfold mx; omega])
          gi_wp2
          refine ⟨fun _ h => (by cases h), ?_⟩
          gi_wp2
          gi_region
          gi_wp2
          go_roundw
          case rel =>
            have G1 := grown_pair wr W.heap.size (.int .i64 x.f1.f0) (.int .i64 x.f1.f1)
            have G : wr.grownBy ((((wr.setCell ⟨W.heap.size, 0, none⟩ (.int .i64 x.f1.f0)).setCell ⟨W.heap.size, 1, none⟩ (.int .i64 x.f1.f1)).alloc (.cells #[.int .i64 x.f0, .int .i64 x.f1.f0, .int .i64 x.f1.f1] 57)).drew) (some W.heap.size) :=
              grown_drew ⟨rfl, rfl, rfl, Nat.le_trans G1.size (by simp), fun j hj hn => (Below.heap_alloc _ _ j (Nat.lt_of_lt_of_le hj G1.size)).trans (G1.block j hj hn)⟩
            refine ⟨k + 1, x.f1, a, pre, by omega, by go_num, rfl, by omega, by rw [HPC.out, HP.out], hJ _ _ _ _ hj G (fun r e => by cases e; exact Nat.le_refl _), bf.kept G (by simp; omega), bl.kept G (by simp; omega), bt.kept G (by simp; omega), (Below.heap_alloc _ _ _ (Nat.lt_of_lt_of_le hsz G1.size)).trans (pair_set bv _ _), hbel.grown G (by have := hbel.size; omega) (fun r e => by cases e; exact hn0), ?_⟩
            have := G.size
            omega
          case measure => simp [intOf]; omega
    · obtain rfl : k = xs.length := by omega
      obtain ⟨fn, tmps, assign, body, hy, hR⟩ := hY pre (v, wrap64 (te - a)) wr hj (by omega)
      dsimp only [encP] at hy
      have HPC := Lib.hid hpc
      clear hpc
      gi_wp2
      refine hR.mono ?_
      rintro e W3 (⟨rfl, hJ3, hk3⟩ | ⟨rfl, hJx3⟩)
      · gi_wp2
        go_end0
        exact ⟨⟨_, rfl⟩, .inl ⟨_, by rw [HPC.out]; simp [pcs], hJ3⟩⟩
      · gi_wp2
        go_end0
        exact ⟨⟨_, rfl⟩, .inr ⟨_, trivial, hJx3⟩⟩

set_option maxHeartbeats 1000000 in
theorem pieces_in (n : Nat) (A : Option Addr) (len c : Nat) (from_ te : Int) (w : World) :
    CallsIn Fence.wide n Try.prog 43 #[.slice A len c, .int .i64 from_, .int .i64 te] w fun e w' =>
      e = .returned (.func (.func 54) #[] #[.pointer (some ⟨w.heap.size + 1, 0, none⟩), .pointer (some ⟨w.heap.size, 0, none⟩), .pointer (some ⟨w.heap.size + 2, 0, none⟩)]) ∧
      w' = ((w.alloc (.cells #[.slice A len c] 22)).alloc (.cells #[.int .i64 from_] 3)).alloc (.cells #[.int .i64 te] 3) := by
  refine callsIn_of_wp Try.func43 rfl trivial ?_ rfl
  simp only [Try.ntmps43, List.size_toArray, List.length_cons, List.length_nil, Nat.reduceAdd, Nat.reduceSub, Array.replicate_succ, Array.replicate_zero, List.push_toArray, List.append_toArray, List.nil_append, List.cons_append]
  gi_wp2
  go_ret
  exact ⟨rfl, rfl⟩

theorem pieces_gives (n : Nat) (hn : 1 ≤ n) (b n₀ M : Nat) (A : Option Addr) (c : Nat) (xs : List S57) (from_ te : Int) (hlen : xs.length ≤ 4611686018427387904) (w₀ w : World) (hn0 : n₀ = w₀.heap.size) (hb0 : Below n₀ w₀ w) (hC : Kd.C k57 w₀ A xs.length xs) (hM : M ≤ b)
    (hl : Boxed w b 22 (.slice A xs.length c)) (hf : Boxed w (b + 1) 3 (.int .i64 from_)) (ht : Boxed w (b + 2) 3 (.int .i64 te)) :
    Gives Fence.wide n Try.prog 54 #[.pointer (some ⟨b + 1, 0, none⟩), .pointer (some ⟨b, 0, none⟩), .pointer (some ⟨b + 2, 0, none⟩)] encP n₀ M (fun ys => ys = pcs te ⟨0, 0⟩ from_ xs) (fun _ => True) (xs.length + 1) w := fun l J Jx W hW hMW hJ _ hY h0 => by
  have lift : ∀ {k : Nat} {t : TypeId} {v : Value}, Boxed w k t v → Boxed W k t v := fun h => (hW.block _ h.lt).trans h
  refine pieces1_in n hn l (b + 1) b (b + 2) n₀ M A c xs from_ te hlen J Jx W (by have := hb0.size; have := hW.size; omega) hMW hJ (by omega) hM (by omega) hY (lift hf) (lift hl) (lift ht) (fun W' h => ?_) h0
  subst hn0
  exact Kd.C_below hC ((hb0.trans (hW.mono hb0.size)).trans h)

end Go.Proofs.Ytnfcbhoaebcndaa.PT
