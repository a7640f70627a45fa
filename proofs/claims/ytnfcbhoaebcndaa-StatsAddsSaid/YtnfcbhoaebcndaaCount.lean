-- stats.count, for both of its callers; stats.Exceeded, stats.Seconds.
import Derived.Test.YtnfcbhoaebcndaaIter
import Derived.Test.YtnfcbhoaebcndaaPTx6
import Derived.Test.YtnfcbhoaebcndaaPTx15
namespace Go.Proofs.Ytnfcbhoaebcndaa.PT
open Go.RowKit Go.Shelf Go.Proofs.YtnfcbhoaebcndaaW.PrintWords Go.Proofs.YtnfcbhoaebcndaaW.PrintLast Go.Proofs.YtnfcbhoaebcndaaW.PrintMore Go.Proofs.Ytnfcbhoaebcndaa.Loop
attribute [local go_sem] Oper.semAt_some max2_int min2_int max_two min_two
set_option linter.unusedVariables false
set_option linter.unusedSimpArgs false


def cntStep (p : S45 → Bool) (n : Int) (q : S45 × Int) : Int := if p q.1 = true then wrap64 (n + q.2) else n
def cntOf (p : S45 → Bool) (l : List (S45 × Int)) : Int := l.foldl (cntStep p) 0
theorem cntOf_snoc (p : S45 → Bool) (l : List (S45 × Int)) (q : S45 × Int) : cntOf p (l ++ [q]) = cntStep p (cntOf p l) q := by simp [cntOf]
def over (lim : Int) (v : S45) : Bool := decide (v.f0 = 1 ∧ v.f1 > lim)
def same (u v : S45) : Bool := decide (v.f0 = u.f0 ∧ v.f1 = u.f1)

set_option maxHeartbeats 1000000 in
theorem over_in (n : Nat) (bl : Nat) (lim : Int) (v : S45) (w : World) (hb : Boxed w bl 2 (.int .i64 lim)) :
    CallsIn Fence.wide n Try.prog 41 #[.agg #[.int .i64 v.f0, .int .i64 v.f1], .pointer (some ⟨bl, 0, none⟩)] w fun e w' => e = .returned (.bool (over lim v)) ∧ w' = w.alloc (.cells #[.int .i64 v.f0, .int .i64 v.f1] 45) := by
  have c := hb.cell
  have lt := hb.lt
  obtain ⟨v0, v1⟩ := v
  dsimp only
  by_cases h1 : v0 = 1
  · subst h1
    by_cases h2 : v1 > lim
    · rw [show over lim ⟨1, v1⟩ = true by simp [over, h2]]
      refine callsIn_of_wp Try.func41 rfl trivial ?_ rfl
      simp only [Try.ntmps41, List.size_toArray, List.length_cons, List.length_nil, Nat.reduceAdd, Nat.reduceSub, Array.replicate_succ, Array.replicate_zero, List.push_toArray, List.append_toArray, List.nil_append, List.cons_append]
      gi_wp2
      go_ret
      exact ⟨rfl, rfl⟩
    · rw [show over lim ⟨1, v1⟩ = false by simp [over]; omega]
      have h3 : v1 ≤ lim := by omega
      refine callsIn_of_wp Try.func41 rfl trivial ?_ rfl
      simp only [Try.ntmps41, List.size_toArray, List.length_cons, List.length_nil, Nat.reduceAdd, Nat.reduceSub, Array.replicate_succ, Array.replicate_zero, List.push_toArray, List.append_toArray, List.nil_append, List.cons_append]
      gi_wp2
      go_ret
      exact ⟨rfl, rfl⟩
  · rw [show over lim ⟨v0, v1⟩ = false by simp [over, h1]]
    refine callsIn_of_wp Try.func41 rfl trivial ?_ rfl
    simp only [Try.ntmps41, List.size_toArray, List.length_cons, List.length_nil, Nat.reduceAdd, Nat.reduceSub, Array.replicate_succ, Array.replicate_zero, List.push_toArray, List.append_toArray, List.nil_append, List.cons_append]
    gi_wp2
    go_ret
    exact ⟨rfl, rfl⟩
set_option maxHeartbeats 1000000 in
theorem same_in (n : Nat) (bl : Nat) (u v : S45) (w : World) (hb : w.heap[bl]? = some (.cells #[.int .i64 u.f0, .int .i64 u.f1] 45 (0, 0))) :
    CallsIn Fence.wide n Try.prog 49 #[.agg #[.int .i64 v.f0, .int .i64 v.f1], .pointer (some ⟨bl, 0, none⟩)] w fun e w' => e = .returned (.bool (same u v)) ∧ w' = w.alloc (.cells #[.int .i64 v.f0, .int .i64 v.f1] 45) := by
  have lt := (Array.getElem?_eq_some_iff.1 hb).1
  obtain ⟨c0, c1, _, _⟩ := pair_cell hb
  obtain ⟨v0, v1⟩ := v
  dsimp only
  by_cases h1 : v0 = u.f0
  · subst h1
    by_cases h2 : v1 = u.f1
    · subst h2
      rw [show same u ⟨u.f0, u.f1⟩ = true by simp [same]]
      refine callsIn_of_wp Try.func49 rfl trivial ?_ rfl
      simp only [Try.ntmps49, List.size_toArray, List.length_cons, List.length_nil, Nat.reduceAdd, Nat.reduceSub, Array.replicate_succ, Array.replicate_zero, List.push_toArray, List.append_toArray, List.nil_append, List.cons_append]
      gi_wp2
      go_ret
      exact ⟨rfl, rfl⟩
    · rw [show same u ⟨u.f0, v1⟩ = false by simp [same, h2]]
      refine callsIn_of_wp Try.func49 rfl trivial ?_ rfl
      simp only [Try.ntmps49, List.size_toArray, List.length_cons, List.length_nil, Nat.reduceAdd, Nat.reduceSub, Array.replicate_succ, Array.replicate_zero, List.push_toArray, List.append_toArray, List.nil_append, List.cons_append]
      gi_wp2
      go_ret
      exact ⟨rfl, rfl⟩
  · rw [show same u ⟨v0, v1⟩ = false by simp [same, h1]]
    refine callsIn_of_wp Try.func49 rfl trivial ?_ rfl
    simp only [Try.ntmps49, List.size_toArray, List.length_cons, List.length_nil, Nat.reduceAdd, Nat.reduceSub, Array.replicate_succ, Array.replicate_zero, List.push_toArray, List.append_toArray, List.nil_append, List.cons_append]
    gi_wp2
    go_ret
    exact ⟨rfl, rfl⟩
-- (written by gencount.py)

def cntAct41 (A : Option Addr) (c : Nat) (xs : List S57) (from_ te : Int) (bl b Bx : Nat) (x : S45 × Int) : Act :=
  { tmps := #[.slice A xs.length c, .int .i64 from_, .int .i64 te, .func (.func 41) #[] #[.pointer (some ⟨bl, 0, none⟩)], undef, undef, undef, .pointer (some ⟨b, 0, none⟩), .int .i64 0, .pointer (some ⟨b + 1, 0, none⟩), .pointer (some ⟨Bx, 0, none⟩), .int .i64 x.2, .slice A xs.length c, .int .i64 from_, .int .i64 te, .func (.func 54) #[] #[.pointer (some ⟨b + 1 + 1 + 1, 0, none⟩), .pointer (some ⟨b + 1 + 1, 0, none⟩), .pointer (some ⟨b + 1 + 1 + 2, 0, none⟩)], .agg #[.int .i64 x.1.f0, .int .i64 x.1.f1], .int .i64 x.2, undef, undef, undef, undef, undef, undef, undef], defers := [] }
set_option maxRecDepth 100000 in
set_option maxHeartbeats 2000000 in
theorem count41_in (A : Option Addr) (c : Nat) (xs : List S57) (from_ te : Int) (hlen : xs.length ≤ 4611686018427387904) (bl : Nat) (lim : Int) (w : World) (hC : Kd.C k57 w A xs.length xs) (hcap : Boxed w bl 2 (.int .i64 lim)) :
    CallsIn Fence.wide 8 Try.prog 40 #[.slice A xs.length c, .int .i64 from_, .int .i64 te, .func (.func 41) #[] #[.pointer (some ⟨bl, 0, none⟩)]] w fun e w' =>
      e = .returned (.int .i64 (cntOf (over lim) (pcs te ⟨0, 0⟩ from_ xs))) ∧ Below w.heap.size w w' := by
  have hbl : bl < w.heap.size := (Array.getElem?_eq_some_iff.1 hcap).1
  refine callsIn_of_wp_marks Try.func40 rfl trivial ?_ rfl
  simp only [Try.ntmps40, List.size_toArray, List.length_cons, List.length_nil, Nat.reduceAdd, Nat.reduceSub, Array.replicate_succ, Array.replicate_zero, List.push_toArray, List.append_toArray, List.nil_append, List.cons_append]
  gi_wp2_with (refine ⟨trivial, ?_⟩; gi_at_call 43; refine (pieces_in _ _ _ _ _ _ _).mono ?_; rintro e w' ⟨rfl, rfl⟩)
  have bS := (Boxed.new w 47 (.func (.func 41) #[] #[.pointer (some ⟨bl, 0, none⟩)])).alloc (.cells #[.int .i64 0] 3)
  have bN := Boxed.new (w.alloc (.cells #[.func (.func 41) #[] #[.pointer (some ⟨bl, 0, none⟩)]] 47)) 3 (.int .i64 0)
  have h0 : Below w.heap.size w ((w.alloc (.cells #[.func (.func 41) #[] #[.pointer (some ⟨bl, 0, none⟩)]] 47)).alloc (.cells #[.int .i64 0] 3)) := ((Below.refl _ w).alloc (Nat.le_refl _) _).alloc (by simp) _
  have s0 : ((w.alloc (.cells #[.func (.func 41) #[] #[.pointer (some ⟨bl, 0, none⟩)]] 47)).alloc (.cells #[.int .i64 0] 3)).heap.size = w.heap.size + 1 + 1 := by simp
  simp only [World.size_alloc] at bN
  obtain ⟨w0, hw0⟩ : ∃ w0, (w.alloc (.cells #[.func (.func 41) #[] #[.pointer (some ⟨bl, 0, none⟩)]] 47)).alloc (.cells #[.int .i64 0] 3) = w0 := ⟨_, rfl⟩
  rw [hw0] at bS bN h0 s0 ⊢
  clear hw0
  have bL := ((Boxed.new w0 22 (.slice A xs.length c)).alloc (.cells #[.int .i64 from_] 3)).alloc (.cells #[.int .i64 te] 3)
  have bF := (Boxed.new (w0.alloc (.cells #[.slice A xs.length c] 22)) 3 (.int .i64 from_)).alloc (.cells #[.int .i64 te] 3)
  have bT := Boxed.new ((w0.alloc (.cells #[.slice A xs.length c] 22)).alloc (.cells #[.int .i64 from_] 3)) 3 (.int .i64 te)
  simp only [World.size_alloc] at bF bT
  rw [Nat.add_assoc] at bT
  have bS1 := ((bS.alloc (.cells #[.slice A xs.length c] 22)).alloc (.cells #[.int .i64 from_] 3)).alloc (.cells #[.int .i64 te] 3)
  have bN1 := ((bN.alloc (.cells #[.slice A xs.length c] 22)).alloc (.cells #[.int .i64 from_] 3)).alloc (.cells #[.int .i64 te] 3)
  have h1 := ((h0.alloc (by omega) (.cells #[.slice A xs.length c] 22)).alloc (by simp; omega) (.cells #[.int .i64 from_] 3)).alloc (by simp; omega) (.cells #[.int .i64 te] 3)
  have s1 : (((w0.alloc (.cells #[.slice A xs.length c] 22)).alloc (.cells #[.int .i64 from_] 3)).alloc (.cells #[.int .i64 te] 3)).heap.size = w.heap.size + 5 := by simp; omega
  obtain ⟨w1, hw1⟩ : ∃ w1, ((w0.alloc (.cells #[.slice A xs.length c] 22)).alloc (.cells #[.int .i64 from_] 3)).alloc (.cells #[.int .i64 te] 3) = w1 := ⟨_, rfl⟩
  rw [hw1] at bL bF bT bS1 bN1 h1 s1 ⊢
  clear hw1
  rw [s0] at bL bF bT
  clear bS bN h0 s0
  refine range_own rfl (by omega) (gf := 54) rfl trivial (enters_of Try.func54 (by kernel_rfl) rfl) (by omega) (M := w.heap.size + 1 + 1) (by omega)
    (pieces_gives 7 (by omega) (w.heap.size + 1 + 1) w.heap.size (w.heap.size + 1 + 1) A c xs from_ te hlen w w1 rfl h1 hC (Nat.le_refl _) bL bF bT) (fun _ => rfl)
    (fun pre W => (Boxed W w.heap.size 47 (.func (.func 41) #[] #[.pointer (some ⟨bl, 0, none⟩)]) ∧ Boxed W (w.heap.size + 1) 3 (.int .i64 (cntOf (over lim) pre))) ∧ Below w.heap.size w W)
    (fun _ _ _ => False)
    (OwnB.and (OwnB.and (OwnB.box (by omega) _ _) (OwnB.box (by omega) _ _)) (OwnB.below (Nat.le_refl _) (by omega)))
    (fun _ _ _ _ _ hs _ _ => hs)
    ⟨⟨bS1, bN1⟩, h1⟩
    (fun x a' W => ∃ Bx, w.heap.size + 5 ≤ Bx ∧ W.heap[Bx]? = some (.cells #[.int .i64 x.1.f0, .int .i64 x.1.f1] 45 (0, 0)) ∧ a' = cntAct41 A c xs from_ te bl w.heap.size Bx x)
    (fun x a' _ X Y row hs hg hr => by
      obtain ⟨Bx, h1, h2, h3⟩ := hs
      exact ⟨Bx, h1, (hg.block _ (Array.getElem?_eq_some_iff.1 h2).1 (fun e => by obtain ⟨_, o, ho, hc⟩ := hr _ e.symm; rw [h2] at ho; cases ho; cases hc)).trans h2, h3⟩)
    ?assign ?body ?done ?stop
  case assign =>
    rintro l pre x W K hsz ⟨⟨b1, b2⟩, hB⟩ hK
    dsimp only [encP]
    gi_wp2
    exact hK _ _ ((KeepsOthers.alloc _ _).from _) (KeepsB.alloc (by omega) _) ⟨⟨b1.alloc _, b2.alloc _⟩, hB.alloc (by omega) _⟩ ⟨W.heap.size, by omega, World.alloc_heap_new W _, rfl⟩
  case body =>
    rintro l pre x a' W hsz ⟨⟨b1, b2⟩, hB⟩ ⟨Bx, hBx, hX, rfl⟩ hlt
    have c1 := b1.cell
    obtain ⟨x0, x1, _, _⟩ := pair_cell hX
    have hcap' := (hB.block bl hbl).trans hcap
    have hcall := (over_in 5 bl lim x.1 W hcap').inRound l
    have HCALL := Lib.hid hcall
    have HCAP := Lib.hid hcap'
    have HX := Lib.hid hX
    clear hcap' hX hcap hcall
    have b2' := b2.alloc (.cells #[.int .i64 x.1.f0, .int .i64 x.1.f1] 45)
    have c2 := b2'.cell
    have f2 := b2'.frozen
    dsimp only [cntAct41]
    by_cases hp : (over lim) x.1 = true
    · have e1 : cntOf (over lim) (pre ++ [x]) = wrap64 (cntOf (over lim) pre + x.2) := by rw [cntOf_snoc]; unfold cntStep; rw [if_pos hp]
      have E1 := Lib.hid e1
      have HP := Lib.hid hp
      clear e1 hp
      gi_wp2_with (refine ⟨trivial, ?_⟩; gi_at_call 41; refine (HCALL.out).mono ?_; rintro e w' ⟨rfl, rfl⟩; rw [HP.out])
      refine ⟨((KeepsOthers.alloc _ _).trans (KeepsOthers.setCell _ _ _)).from _, (KeepsB.alloc (by omega) _).trans (KeepsB.setCell _ (by omega) (by omega) _), ⟨(b1.alloc _).other (by omega) _, ?_⟩, (hB.alloc (by omega) _).setCell (p := ⟨w.heap.size + 1, 0, none⟩) (by simp) _⟩
      rw [E1.out]; exact b2'.set _
    · have e1 : cntOf (over lim) (pre ++ [x]) = cntOf (over lim) pre := by rw [cntOf_snoc]; unfold cntStep; rw [if_neg hp]
      have E1 := Lib.hid e1
      have HP := Lib.hid (Bool.eq_false_iff.2 hp)
      clear e1 hp
      gi_wp2_with (refine ⟨trivial, ?_⟩; gi_at_call 41; refine (HCALL.out).mono ?_; rintro e w' ⟨rfl, rfl⟩; rw [HP.out])
      exact ⟨(KeepsOthers.alloc _ _).from _, KeepsB.alloc (by omega) _, by dsimp only; rw [E1.out]; exact ⟨⟨b1.alloc _, b2'⟩, hB.alloc (by omega) _⟩⟩
  case done =>
    rintro D ys W hD rfl ⟨⟨b1, b2⟩, hB⟩ hK
    have c2 := b2.cell
    gi_wp2
    refine ⟨by simp, .inl ⟨_, _, rfl, run_takeDeferred hK, ?_⟩⟩
    exact ⟨_, results_tmp rfl _ _ _, rfl, hB.trans (belowK_b (w := w) (Nat.le_refl _) W D _ _ (by omega) hK rfl rfl)⟩
  case stop =>
    rintro D c pre W _ _ h _
    exact h.elim

def cntAct49 (A : Option Addr) (c : Nat) (xs : List S57) (from_ te : Int) (bl b Bx : Nat) (x : S45 × Int) : Act :=
  { tmps := #[.slice A xs.length c, .int .i64 from_, .int .i64 te, .func (.func 49) #[] #[.pointer (some ⟨bl, 0, none⟩)], undef, undef, undef, .pointer (some ⟨b, 0, none⟩), .int .i64 0, .pointer (some ⟨b + 1, 0, none⟩), .pointer (some ⟨Bx, 0, none⟩), .int .i64 x.2, .slice A xs.length c, .int .i64 from_, .int .i64 te, .func (.func 54) #[] #[.pointer (some ⟨b + 1 + 1 + 1, 0, none⟩), .pointer (some ⟨b + 1 + 1, 0, none⟩), .pointer (some ⟨b + 1 + 1 + 2, 0, none⟩)], .agg #[.int .i64 x.1.f0, .int .i64 x.1.f1], .int .i64 x.2, undef, undef, undef, undef, undef, undef, undef], defers := [] }
set_option maxRecDepth 100000 in
set_option maxHeartbeats 2000000 in
theorem count49_in (A : Option Addr) (c : Nat) (xs : List S57) (from_ te : Int) (hlen : xs.length ≤ 4611686018427387904) (bl : Nat) (u : S45) (w : World) (hC : Kd.C k57 w A xs.length xs) (hcap : w.heap[bl]? = some (.cells #[.int .i64 u.f0, .int .i64 u.f1] 45 (0, 0))) :
    CallsIn Fence.wide 8 Try.prog 40 #[.slice A xs.length c, .int .i64 from_, .int .i64 te, .func (.func 49) #[] #[.pointer (some ⟨bl, 0, none⟩)]] w fun e w' =>
      e = .returned (.int .i64 (cntOf (same u) (pcs te ⟨0, 0⟩ from_ xs))) ∧ Below w.heap.size w w' := by
  have hbl : bl < w.heap.size := (Array.getElem?_eq_some_iff.1 hcap).1
  refine callsIn_of_wp_marks Try.func40 rfl trivial ?_ rfl
  simp only [Try.ntmps40, List.size_toArray, List.length_cons, List.length_nil, Nat.reduceAdd, Nat.reduceSub, Array.replicate_succ, Array.replicate_zero, List.push_toArray, List.append_toArray, List.nil_append, List.cons_append]
  gi_wp2_with (refine ⟨trivial, ?_⟩; gi_at_call 43; refine (pieces_in _ _ _ _ _ _ _).mono ?_; rintro e w' ⟨rfl, rfl⟩)
  have bS := (Boxed.new w 47 (.func (.func 49) #[] #[.pointer (some ⟨bl, 0, none⟩)])).alloc (.cells #[.int .i64 0] 3)
  have bN := Boxed.new (w.alloc (.cells #[.func (.func 49) #[] #[.pointer (some ⟨bl, 0, none⟩)]] 47)) 3 (.int .i64 0)
  have h0 : Below w.heap.size w ((w.alloc (.cells #[.func (.func 49) #[] #[.pointer (some ⟨bl, 0, none⟩)]] 47)).alloc (.cells #[.int .i64 0] 3)) := ((Below.refl _ w).alloc (Nat.le_refl _) _).alloc (by simp) _
  have s0 : ((w.alloc (.cells #[.func (.func 49) #[] #[.pointer (some ⟨bl, 0, none⟩)]] 47)).alloc (.cells #[.int .i64 0] 3)).heap.size = w.heap.size + 1 + 1 := by simp
  simp only [World.size_alloc] at bN
  obtain ⟨w0, hw0⟩ : ∃ w0, (w.alloc (.cells #[.func (.func 49) #[] #[.pointer (some ⟨bl, 0, none⟩)]] 47)).alloc (.cells #[.int .i64 0] 3) = w0 := ⟨_, rfl⟩
  rw [hw0] at bS bN h0 s0 ⊢
  clear hw0
  have bL := ((Boxed.new w0 22 (.slice A xs.length c)).alloc (.cells #[.int .i64 from_] 3)).alloc (.cells #[.int .i64 te] 3)
  have bF := (Boxed.new (w0.alloc (.cells #[.slice A xs.length c] 22)) 3 (.int .i64 from_)).alloc (.cells #[.int .i64 te] 3)
  have bT := Boxed.new ((w0.alloc (.cells #[.slice A xs.length c] 22)).alloc (.cells #[.int .i64 from_] 3)) 3 (.int .i64 te)
  simp only [World.size_alloc] at bF bT
  rw [Nat.add_assoc] at bT
  have bS1 := ((bS.alloc (.cells #[.slice A xs.length c] 22)).alloc (.cells #[.int .i64 from_] 3)).alloc (.cells #[.int .i64 te] 3)
  have bN1 := ((bN.alloc (.cells #[.slice A xs.length c] 22)).alloc (.cells #[.int .i64 from_] 3)).alloc (.cells #[.int .i64 te] 3)
  have h1 := ((h0.alloc (by omega) (.cells #[.slice A xs.length c] 22)).alloc (by simp; omega) (.cells #[.int .i64 from_] 3)).alloc (by simp; omega) (.cells #[.int .i64 te] 3)
  have s1 : (((w0.alloc (.cells #[.slice A xs.length c] 22)).alloc (.cells #[.int .i64 from_] 3)).alloc (.cells #[.int .i64 te] 3)).heap.size = w.heap.size + 5 := by simp; omega
  obtain ⟨w1, hw1⟩ : ∃ w1, ((w0.alloc (.cells #[.slice A xs.length c] 22)).alloc (.cells #[.int .i64 from_] 3)).alloc (.cells #[.int .i64 te] 3) = w1 := ⟨_, rfl⟩
  rw [hw1] at bL bF bT bS1 bN1 h1 s1 ⊢
  clear hw1
  rw [s0] at bL bF bT
  clear bS bN h0 s0
  refine range_own rfl (by omega) (gf := 54) rfl trivial (enters_of Try.func54 (by kernel_rfl) rfl) (by omega) (M := w.heap.size + 1 + 1) (by omega)
    (pieces_gives 7 (by omega) (w.heap.size + 1 + 1) w.heap.size (w.heap.size + 1 + 1) A c xs from_ te hlen w w1 rfl h1 hC (Nat.le_refl _) bL bF bT) (fun _ => rfl)
    (fun pre W => (Boxed W w.heap.size 47 (.func (.func 49) #[] #[.pointer (some ⟨bl, 0, none⟩)]) ∧ Boxed W (w.heap.size + 1) 3 (.int .i64 (cntOf (same u) pre))) ∧ Below w.heap.size w W)
    (fun _ _ _ => False)
    (OwnB.and (OwnB.and (OwnB.box (by omega) _ _) (OwnB.box (by omega) _ _)) (OwnB.below (Nat.le_refl _) (by omega)))
    (fun _ _ _ _ _ hs _ _ => hs)
    ⟨⟨bS1, bN1⟩, h1⟩
    (fun x a' W => ∃ Bx, w.heap.size + 5 ≤ Bx ∧ W.heap[Bx]? = some (.cells #[.int .i64 x.1.f0, .int .i64 x.1.f1] 45 (0, 0)) ∧ a' = cntAct49 A c xs from_ te bl w.heap.size Bx x)
    (fun x a' _ X Y row hs hg hr => by
      obtain ⟨Bx, h1, h2, h3⟩ := hs
      exact ⟨Bx, h1, (hg.block _ (Array.getElem?_eq_some_iff.1 h2).1 (fun e => by obtain ⟨_, o, ho, hc⟩ := hr _ e.symm; rw [h2] at ho; cases ho; cases hc)).trans h2, h3⟩)
    ?assign ?body ?done ?stop
  case assign =>
    rintro l pre x W K hsz ⟨⟨b1, b2⟩, hB⟩ hK
    dsimp only [encP]
    gi_wp2
    exact hK _ _ ((KeepsOthers.alloc _ _).from _) (KeepsB.alloc (by omega) _) ⟨⟨b1.alloc _, b2.alloc _⟩, hB.alloc (by omega) _⟩ ⟨W.heap.size, by omega, World.alloc_heap_new W _, rfl⟩
  case body =>
    rintro l pre x a' W hsz ⟨⟨b1, b2⟩, hB⟩ ⟨Bx, hBx, hX, rfl⟩ hlt
    have c1 := b1.cell
    obtain ⟨x0, x1, _, _⟩ := pair_cell hX
    have hcap' := (hB.block bl hbl).trans hcap
    have hcall := (same_in 5 bl u x.1 W hcap').inRound l
    have HCALL := Lib.hid hcall
    have HCAP := Lib.hid hcap'
    have HX := Lib.hid hX
    clear hcap' hX hcap hcall
    have b2' := b2.alloc (.cells #[.int .i64 x.1.f0, .int .i64 x.1.f1] 45)
    have c2 := b2'.cell
    have f2 := b2'.frozen
    dsimp only [cntAct49]
    by_cases hp : (same u) x.1 = true
    · have e1 : cntOf (same u) (pre ++ [x]) = wrap64 (cntOf (same u) pre + x.2) := by rw [cntOf_snoc]; unfold cntStep; rw [if_pos hp]
      have E1 := Lib.hid e1
      have HP := Lib.hid hp
      clear e1 hp
      gi_wp2_with (refine ⟨trivial, ?_⟩; gi_at_call 49; refine (HCALL.out).mono ?_; rintro e w' ⟨rfl, rfl⟩; rw [HP.out])
      refine ⟨((KeepsOthers.alloc _ _).trans (KeepsOthers.setCell _ _ _)).from _, (KeepsB.alloc (by omega) _).trans (KeepsB.setCell _ (by omega) (by omega) _), ⟨(b1.alloc _).other (by omega) _, ?_⟩, (hB.alloc (by omega) _).setCell (p := ⟨w.heap.size + 1, 0, none⟩) (by simp) _⟩
      rw [E1.out]; exact b2'.set _
    · have e1 : cntOf (same u) (pre ++ [x]) = cntOf (same u) pre := by rw [cntOf_snoc]; unfold cntStep; rw [if_neg hp]
      have E1 := Lib.hid e1
      have HP := Lib.hid (Bool.eq_false_iff.2 hp)
      clear e1 hp
      gi_wp2_with (refine ⟨trivial, ?_⟩; gi_at_call 49; refine (HCALL.out).mono ?_; rintro e w' ⟨rfl, rfl⟩; rw [HP.out])
      exact ⟨(KeepsOthers.alloc _ _).from _, KeepsB.alloc (by omega) _, by dsimp only; rw [E1.out]; exact ⟨⟨b1.alloc _, b2'⟩, hB.alloc (by omega) _⟩⟩
  case done =>
    rintro D ys W hD rfl ⟨⟨b1, b2⟩, hB⟩ hK
    have c2 := b2.cell
    gi_wp2
    refine ⟨by simp, .inl ⟨_, _, rfl, run_takeDeferred hK, ?_⟩⟩
    exact ⟨_, results_tmp rfl _ _ _, rfl, hB.trans (belowK_b (w := w) (Nat.le_refl _) W D _ _ (by omega) hK rfl rfl)⟩
  case stop =>
    rintro D c pre W _ _ h _
    exact h.elim

set_option maxRecDepth 100000 in
set_option maxHeartbeats 1000000 in
theorem exceeded_ok (k : Nat) (A : Option Addr) (c : Nat) (xs : List S57) (lim : Int) (from_ te r : Int) (hlen : xs.length ≤ 4611686018427387904) (w : World) (hC : Kd.C k57 w A xs.length xs) (hc : xs.length ≤ c) (hk : stats_checked.f k xs from_ te = some r) :
    CallsIn Fence.wide 9 Try.prog 12 #[.slice A xs.length c, .int .i64 lim, .int .i64 from_, .int .i64 te] w fun e w' =>
      e = .returned (if r = 0 then .tuple #[.int .i64 (cntOf (over lim) (pcs te ⟨0, 0⟩ from_ xs)), .int .i64 0] else .tuple #[.int .i64 0, .int .i64 r]) ∧ Below w.heap.size w w' := by
  have hch := fun W (h : Below w.heap.size w W) => (callsIn_wide (n := 8)).2 (stats_checked.calls k A c xs from_ te r W (Kd.C_below hC h) hc hk)
  have HCH := Lib.hid hch
  have HK := Lib.hid hk
  clear hch hk
  have h0 : Below w.heap.size w (w.alloc (.cells #[.int .i64 lim] 2)) := (Below.refl _ w).alloc (Nat.le_refl _) _
  have s0 : (w.alloc (.cells #[.int .i64 lim] 2)).heap.size = w.heap.size + 1 := by simp
  have bx : (w.alloc (.cells #[.int .i64 lim] 2)).heap[w.heap.size]? = some (.cells #[.int .i64 lim] 2 (0, 0)) := World.alloc_heap_new w _
  have H0 := Lib.hid h0
  have S0 := Lib.hid s0
  have BX := Lib.hid bx
  clear h0 s0 bx
  by_cases hr : r = 0
  · subst hr
    rw [if_pos rfl]
    refine callsIn_of_wp Try.func12 rfl trivial ?_ rfl
    simp only [Try.ntmps12, List.size_toArray, List.length_cons, List.length_nil, Nat.reduceAdd, Nat.reduceSub, Array.replicate_succ, Array.replicate_zero, List.push_toArray, List.append_toArray, List.nil_append, List.cons_append]
    gi_wp2
    refine ⟨trivial, ?_⟩
    refine (HCH.out _ H0.out).mono ?_
    rintro e w' ⟨rfl, hw'⟩
    have B1 := Lib.hid (hw'.block w.heap.size (by rw [S0.out]; omega))
    have HB := Lib.hid (H0.out.trans (hw'.mono (by rw [S0.out]; omega)))
    clear hw'
    gi_wp2
    refine ⟨trivial, ?_⟩
    refine (count41_in A c xs from_ te hlen w.heap.size lim w' (Kd.C_below hC HB.out) (B1.out.trans BX.out)).mono ?_
    rintro e w'' ⟨rfl, hw''⟩
    have HW := Lib.hid hw''
    clear hw''
    gi_wp2
    exact bodyPost_ret (v := .tuple #[.int .i64 (cntOf (over lim) (pcs te ⟨0, 0⟩ from_ xs)), .int .i64 0]) (by simp [results, Try.f12, go_sem]) rfl ⟨rfl, HB.out.trans (HW.out.mono HB.out.size)⟩
  · rw [if_neg hr]
    have hr' : (r == 0) = false := by simpa using hr
    refine callsIn_of_wp Try.func12 rfl trivial ?_ rfl
    simp only [Try.ntmps12, List.size_toArray, List.length_cons, List.length_nil, Nat.reduceAdd, Nat.reduceSub, Array.replicate_succ, Array.replicate_zero, List.push_toArray, List.append_toArray, List.nil_append, List.cons_append]
    gi_wp2
    refine ⟨trivial, ?_⟩
    refine (HCH.out _ H0.out).mono ?_
    rintro e w' ⟨rfl, hw'⟩
    have HB := Lib.hid (H0.out.trans (hw'.mono (by rw [S0.out]; omega)))
    clear hw'
    gi_wp2
    exact bodyPost_ret (v := .tuple #[.int .i64 0, .int .i64 r]) (by simp [results, Try.f12, go_sem]) rfl ⟨rfl, HB.out⟩
def stats_Exceeded.f (k : Nat) (l0 : List (S57)) (a1 : Int) (a2 : Int) (a3 : Int) : Option (Int × Int) :=
  if l0.length ≤ 4611686018427387904 then (stats_checked.f k l0 a2 a3).bind fun e => if e = 0 then some (cntOf (over a1) (pcs a3 ⟨0, 0⟩ a2 l0), 0) else some (0, e) else none
theorem stats_Exceeded.calls (k : Nat) (A0 : Option Addr) (c0 : Nat) (l0 : List (S57)) (a1 : Int) (a2 : Int) (a3 : Int) (r1 : Int) (r2 : Int) (w : World) (hr0 : Kd.C k57 w A0 l0.length l0) (hc0 : l0.length ≤ c0) (h : stats_Exceeded.f k l0 a1 a2 a3 = some (r1, r2)) :
    Calls Try.prog 12 #[.slice A0 l0.length c0, .int .i64 a1, .int .i64 a2, .int .i64 a3] w fun e w' => e = .returned (.tuple #[.int .i64 r1, .int .i64 r2]) ∧ Below w.heap.size w w' := by
  unfold stats_Exceeded.f at h
  by_cases hl : l0.length ≤ 4611686018427387904
  · rw [if_pos hl] at h
    obtain ⟨e, he, h⟩ := Option.bind_eq_some_iff.1 h
    have := (callsIn_wide (n := 9)).1 (exceeded_ok k A0 c0 l0 a1 a2 a3 e hl w hr0 hc0 he)
    by_cases h0 : e = 0
    · rw [if_pos h0] at h this
      cases h
      exact this
    · rw [if_neg h0] at h this
      cases h
      exact this
  · rw [if_neg hl] at h
    cases h

set_option maxRecDepth 100000 in
set_option maxHeartbeats 1000000 in
theorem seconds_ok (k : Nat) (A : Option Addr) (c : Nat) (xs : List S57) (u : S45) (from_ te r : Int) (hlen : xs.length ≤ 4611686018427387904) (w : World) (hC : Kd.C k57 w A xs.length xs) (hc : xs.length ≤ c) (hk : stats_about.f k xs u.f0 u.f1 from_ te = some r) :
    CallsIn Fence.wide 9 Try.prog 24 #[.slice A xs.length c, .agg #[.int .i64 u.f0, .int .i64 u.f1], .int .i64 from_, .int .i64 te] w fun e w' =>
      e = .returned (if r = 0 then .tuple #[.int .i64 (cntOf (same u) (pcs te ⟨0, 0⟩ from_ xs)), .int .i64 0] else .tuple #[.int .i64 0, .int .i64 r]) ∧ Below w.heap.size w w' := by
  have hch := fun W (h : Below w.heap.size w W) => (callsIn_wide (n := 8)).2 (stats_about.calls k A c xs u.f0 u.f1 from_ te r W (Kd.C_below hC h) hc hk)
  have HCH := Lib.hid hch
  have HK := Lib.hid hk
  clear hch hk
  have h0 : Below w.heap.size w (w.alloc (.cells #[.int .i64 u.f0, .int .i64 u.f1] 45)) := (Below.refl _ w).alloc (Nat.le_refl _) _
  have s0 : (w.alloc (.cells #[.int .i64 u.f0, .int .i64 u.f1] 45)).heap.size = w.heap.size + 1 := by simp
  have bx : (w.alloc (.cells #[.int .i64 u.f0, .int .i64 u.f1] 45)).heap[w.heap.size]? = some (.cells #[.int .i64 u.f0, .int .i64 u.f1] 45 (0, 0)) := World.alloc_heap_new w _
  have H0 := Lib.hid h0
  have S0 := Lib.hid s0
  have BX := Lib.hid bx
  clear h0 s0 bx
  by_cases hr : r = 0
  · subst hr
    rw [if_pos rfl]
    refine callsIn_of_wp Try.func24 rfl trivial ?_ rfl
    simp only [Try.ntmps24, List.size_toArray, List.length_cons, List.length_nil, Nat.reduceAdd, Nat.reduceSub, Array.replicate_succ, Array.replicate_zero, List.push_toArray, List.append_toArray, List.nil_append, List.cons_append]
    gi_wp2
    refine ⟨trivial, ?_⟩
    refine (HCH.out _ H0.out).mono ?_
    rintro e w' ⟨rfl, hw'⟩
    have B1 := Lib.hid (hw'.block w.heap.size (by rw [S0.out]; omega))
    have HB := Lib.hid (H0.out.trans (hw'.mono (by rw [S0.out]; omega)))
    clear hw'
    gi_wp2
    refine ⟨trivial, ?_⟩
    refine (count49_in A c xs from_ te hlen w.heap.size u w' (Kd.C_below hC HB.out) (B1.out.trans BX.out)).mono ?_
    rintro e w'' ⟨rfl, hw''⟩
    have HW := Lib.hid hw''
    clear hw''
    gi_wp2
    exact bodyPost_ret (v := .tuple #[.int .i64 (cntOf (same u) (pcs te ⟨0, 0⟩ from_ xs)), .int .i64 0]) (by simp [results, Try.f24, go_sem]) rfl ⟨rfl, HB.out.trans (HW.out.mono HB.out.size)⟩
  · rw [if_neg hr]
    have hr' : (r == 0) = false := by simpa using hr
    refine callsIn_of_wp Try.func24 rfl trivial ?_ rfl
    simp only [Try.ntmps24, List.size_toArray, List.length_cons, List.length_nil, Nat.reduceAdd, Nat.reduceSub, Array.replicate_succ, Array.replicate_zero, List.push_toArray, List.append_toArray, List.nil_append, List.cons_append]
    gi_wp2
    refine ⟨trivial, ?_⟩
    refine (HCH.out _ H0.out).mono ?_
    rintro e w' ⟨rfl, hw'⟩
    have HB := Lib.hid (H0.out.trans (hw'.mono (by rw [S0.out]; omega)))
    clear hw'
    gi_wp2
    exact bodyPost_ret (v := .tuple #[.int .i64 0, .int .i64 r]) (by simp [results, Try.f24, go_sem]) rfl ⟨rfl, HB.out⟩
def stats_Seconds.f (k : Nat) (l0 : List (S57)) (a1_0 : Int) (a1_1 : Int) (a2 : Int) (a3 : Int) : Option (Int × Int) :=
  if l0.length ≤ 4611686018427387904 then (stats_about.f k l0 a1_0 a1_1 a2 a3).bind fun e => if e = 0 then some (cntOf (same ⟨a1_0, a1_1⟩) (pcs a3 ⟨0, 0⟩ a2 l0), 0) else some (0, e) else none
theorem stats_Seconds.calls (k : Nat) (A0 : Option Addr) (c0 : Nat) (l0 : List (S57)) (a1_0 : Int) (a1_1 : Int) (a2 : Int) (a3 : Int) (r1 : Int) (r2 : Int) (w : World) (hr0 : Kd.C k57 w A0 l0.length l0) (hc0 : l0.length ≤ c0) (h : stats_Seconds.f k l0 a1_0 a1_1 a2 a3 = some (r1, r2)) :
    Calls Try.prog 24 #[.slice A0 l0.length c0, .agg #[.int .i64 a1_0, .int .i64 a1_1], .int .i64 a2, .int .i64 a3] w fun e w' => e = .returned (.tuple #[.int .i64 r1, .int .i64 r2]) ∧ Below w.heap.size w w' := by
  unfold stats_Seconds.f at h
  by_cases hl : l0.length ≤ 4611686018427387904
  · rw [if_pos hl] at h
    obtain ⟨e, he, h⟩ := Option.bind_eq_some_iff.1 h
    have := (callsIn_wide (n := 9)).1 (seconds_ok k A0 c0 l0 ⟨a1_0, a1_1⟩ a2 a3 e hl w hr0 hc0 he)
    by_cases h0 : e = 0
    · rw [if_pos h0] at h this
      cases h
      exact this
    · rw [if_neg h0] at h this
      cases h
      exact this
  · rw [if_neg hl] at h
    cases h
theorem stats_Exceeded.mono : ∀ a0 a1 a2 a3 k, LeO (stats_Exceeded.f k a0 a1 a2 a3) (stats_Exceeded.f (k + 1) a0 a1 a2 a3) := by
  intro a0 a1 a2 a3 k
  unfold stats_Exceeded.f
  repeat' first
    | (with_reducible exact stats_checked.mono _ _ _ _)
    | (with_reducible exact LeO.refl _)
    | (with_reducible exact LeO.none _)
    | (with_reducible refine LeO.ite ?_ ?_)
    | (with_reducible refine LeO.bind ?_ (fun _ => ?_))
theorem stats_Seconds.mono : ∀ a0 a1 a2 a3 a4 k, LeO (stats_Seconds.f k a0 a1 a2 a3 a4) (stats_Seconds.f (k + 1) a0 a1 a2 a3 a4) := by
  intro a0 a1 a2 a3 a4 k
  unfold stats_Seconds.f
  repeat' first
    | (with_reducible exact stats_about.mono _ _ _ _ _ _)
    | (with_reducible exact LeO.refl _)
    | (with_reducible exact LeO.none _)
    | (with_reducible refine LeO.ite ?_ ?_)
    | (with_reducible refine LeO.bind ?_ (fun _ => ?_))
end Go.Proofs.Ytnfcbhoaebcndaa.PT
