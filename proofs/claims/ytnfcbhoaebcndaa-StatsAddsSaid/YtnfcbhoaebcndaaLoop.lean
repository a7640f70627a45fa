/- A range over a function whose iterator keeps a variable of its own in memory: what such an iterator promises, and the rule for the caller's loop. -/
import Derived.RangeFuncNested
import Derived.RangeFuncBound
import Derived.RangeFuncCalls
import Derived.RangeFuncLeaves
import Derived.Shelf.Abstract
import Derived.WalkKit
import Derived.OwnWalkIn
import Derived.Sort.QuietIn
namespace Go.Proofs.Ytnfcbhoaebcndaa.Loop
open Go.RowKit
set_option linter.unusedVariables false
set_option linter.unusedSimpArgs false

/-- I is about blocks below B alone. -/
def OwnB {β : Type} (B : Nat) (I : β → World → Prop) : Prop :=
  ∀ s W W' row, I s W → W.grownBy W' row → (∀ r, row = some r → B ≤ r) → I s W'
theorem OwnB.from {β : Type} {B : Nat} {I : β → World → Prop} (h : OwnB B I) : OwnFrom B I := fun s W W' row hs hg hr => h s W W' row hs hg (fun r e => (hr r e).1)
theorem OwnB.and {β : Type} {B : Nat} {I J : β → World → Prop} (h : OwnB B I) (k : OwnB B J) : OwnB B (fun s W => I s W ∧ J s W) := fun s W W' row hs hg hr => ⟨h s W W' row hs.1 hg hr, k s W W' row hs.2 hg hr⟩
theorem OwnB.box {β : Type} {B b : Nat} (hb : b < B) (t : TypeId) (f : β → Value) : OwnB B (fun s W => Boxed W b t (f s)) := fun s W W' row hs hg hr =>
  hs.kept hg (fun e => by have := hr b e.symm; omega)
theorem OwnB.below {β : Type} {n₀ B : Nat} {w₀ : World} (hn : n₀ ≤ w₀.heap.size) (hB : n₀ ≤ B) : OwnB B (fun (_ : β) W => Below n₀ w₀ W) := fun s W W' row hs hg hr =>
  hs.grown hg (Nat.le_trans hn hs.size) (fun k e => Nat.le_trans hB (hr k e))
theorem OwnB.keeps {β : Type} {B B' : Nat} {w₀ : World} (hw : w₀.heap.size ≤ B') : OwnB B' (fun (_ : β) W => KeepsFrom B w₀ W) := fun s W W' row hs hg hr =>
  ⟨Nat.le_trans hs.size hg.size, fun k o hk h0 ho => by
    have h1 := hs.same k o hk h0 ho
    have h2 := (Array.getElem?_eq_some_iff.1 h0).1
    exact (hg.block k (Array.getElem?_eq_some_iff.1 h1).1 (fun e => by have := hr k e.symm; omega)).trans h1⟩
theorem OwnB.pure {β : Type} (B : Nat) (p : β → Prop) : OwnB B (fun s (_ : World) => p s) := fun _ _ _ _ hs _ _ => hs

/-- What a round that goes on keeps: all below n₀; the cells of blocks from B on. -/
structure KeepsB (n₀ B : Nat) (W W' : World) : Prop where
  below : Below n₀ W W'
  cells : ∀ k o, B ≤ k → W.heap[k]? = some o → o.isCells = true → W'.heap[k]? = some o
theorem KeepsB.refl (n₀ B : Nat) (W : World) : KeepsB n₀ B W W := ⟨Below.refl _ _, fun _ _ _ h _ => h⟩
theorem KeepsB.trans {n₀ B : Nat} {X Y Z : World} (h : KeepsB n₀ B X Y) (k : KeepsB n₀ B Y Z) : KeepsB n₀ B X Z := ⟨h.below.trans k.below, fun i o hi h0 ho => k.cells i o hi (h.cells i o hi h0 ho) ho⟩
theorem KeepsB.drew {n₀ B : Nat} {X Y : World} (h : KeepsB n₀ B X Y) : KeepsB n₀ B X Y.drew := ⟨h.below.drew, h.cells⟩
theorem KeepsB.alloc {n₀ B : Nat} {W : World} (hn : n₀ ≤ W.heap.size) (o : Obj) : KeepsB n₀ B W (W.alloc o) :=
  ⟨(Below.refl _ W).alloc hn o, fun k o' _ h _ => (Below.heap_alloc W o k (Array.getElem?_eq_some_iff.1 h).1).trans h⟩
theorem KeepsB.setCell {n₀ B b : Nat} (W : World) (hn : n₀ ≤ b) (hb : b < B) (v : Value) : KeepsB n₀ B W (W.setCell ⟨b, 0, none⟩ v) :=
  ⟨(Below.refl _ W).setCell (p := ⟨b, 0, none⟩) hn v, fun k o hk h _ => (Below.heap_setCell W ⟨b, 0, none⟩ v k (fun e => by have e' : k = b := e; omega)).trans h⟩
theorem KeepsB.putObj {n₀ B l : Nat} {W : World} {o : Obj} (o' : Obj) (hl : n₀ ≤ l) (h : W.heap[l]? = some o) (ho : o.isCells = false) : KeepsB n₀ B W (W.putObj l o') :=
  ⟨(Below.refl n₀ W).grown (grownBy_putObj' W l o') (Nat.le_trans hl (Nat.le_of_lt (Array.getElem?_eq_some_iff.1 h).1)) (fun k e => by cases e; exact hl),
   fun k o2 _ h2 hc => (World.putObj_heap_other (fun e => by rw [e] at h2; rw [h] at h2; cases h2; rw [ho] at hc; cases hc)).trans h2⟩

/-- What the iterator promises: all of an S come, or a part (Sp), the last round having said 'no more'. -/
def Gives {α : Type} (F : Fence) (n : Nat) (P : Program) (g : Nat) (lb : Array Value) (encs : α → Array Value) (n₀ B : Nat) (S Sp : List α → Prop) (N : Nat) (w : World) : Prop :=
  ∀ (l : Nat) (J Jx : List α → World → Prop) (W : World), Below w.heap.size w W → B ≤ W.heap.size → OwnB W.heap.size J → OwnB W.heap.size Jx →
    (∀ pre x W1, J pre W1 → pre.length < N → YieldAt F (n - 1) P l (encs x) W1 fun e W' =>
      (e = .returned (.bool true) ∧ J (pre ++ [x]) W' ∧ KeepsB n₀ B W1 W') ∨ (e = .returned (.bool false) ∧ Jx (pre ++ [x]) W')) →
    J [] W →
    CallsIn F n P g (#[.func (.yield l) #[] #[]] ++ lb) W fun e W' => (∃ v, e = .returned v) ∧ ((∃ xs, S xs ∧ J xs W') ∨ (∃ pre, Sp pre ∧ Jx pre W'))

variable {F : Fence} {n : Nat} {P : Program} {w : World}

theorem range_own {α : Type} {M : Nat} {g : Operand} {ps : Array Tmp} {assign body : Code} {Q : Exit → Act → World → Prop} {a : Act}
    (hro : F.round = none) (h1 : 1 ≤ n) {gf : Nat} {lb : Array Value} (hg : a.eval g = .func (.func gf) #[] lb) (hFg : F.fn gf) (eg : ∀ args w, (callFunc gf args).run P w = .ok (.enter gf args) w)
    {encs : α → Array Value} {n₀ : Nat} {S Sp : List α → Prop} {N : Nat} (hn : n₀ ≤ w.heap.size) (hM : M ≤ w.heap.size) (hseq : Gives F (n - 1) P gf lb encs n₀ M S Sp N w) (hps : ∀ x, (encs x).size = ps.size)
    (I : List α → World → Prop) (Ix : Code → List α → World → Prop) (hI : OwnB w.heap.size I) (hIx : ∀ c, OwnB w.heap.size (Ix c)) (h0 : I [] w)
    (Ax : α → Act → World → Prop) (hAx : ∀ x a', OwnFrom w.heap.size (fun (_ : Unit) W => Ax x a' W))
    (hassign : ∀ (l : Nat) (pre : List α) (x : α) (W : World) (K : Act → World → Prop), w.heap.size ≤ W.heap.size → I pre W → (∀ a' W', KeepsFrom w.heap.size W W' → KeepsB n₀ M W W' → I pre W' → Ax x a' W' → K a' W') →
      assign.wpIn (F.inRound l) (n - 1 - 1) P (Exit.then K (fun _ _ _ => False)) { tmps := (ps.zip (encs x)).foldl (fun t (p, v) => t.setIfInBounds p v) a.tmps, defers := [] } W)
    (hbody : ∀ (l : Nat) (pre : List α) (x : α) (a' : Act) (W : World), w.heap.size ≤ W.heap.size → I pre W → Ax x a' W → pre.length < N → body.wpIn (F.inRound l) (n - 1 - 1) P (ownPostG w.heap.size (KeepsB n₀ M) I Ix (pre ++ [x]) W) a' W)
    (hdone : ∀ (D : Nat) (xs : List α) (W : World), w.heap.size ≤ D → S xs → I xs W → W.heap[D]? = some (.deferred (some [])) → Q .normal { a with defers := { target := .collected D, args := #[] } :: a.defers } W)
    (hstop : ∀ (D : Nat) (c : Code) (pre : List α) (W : World), w.heap.size ≤ D → Sp pre → Ix c pre W → W.heap[D]? = some (.deferred (some [])) → c.wpIn F n P Q { a with defers := { target := .collected D, args := #[] } :: a.defers } W) :
    (Code.rangeFunc g ps assign body).wpIn F n P Q a w := by
  refine wpIn_rangeFunc ?_
  intro fn hfn
  rw [hro]
  obtain ⟨B, hB⟩ : ∃ B, w.heap.size = B := ⟨_, rfl⟩
  obtain ⟨rec, hrec⟩ : ∃ rec : LoopState → Option Code → Loop, rec = fun st pe => { state := st, pending := pe, fn, tmps := a.tmps, params := ps, assign, body, defers := w.heap.size } := ⟨_, rfl⟩
  obtain ⟨W1, hW1⟩ : ∃ W1, (w.alloc (.deferred (some []))).alloc (.loop (rec .ready none)) = W1 := ⟨_, rfl⟩
  have hs1 : W1.heap.size = B + 2 := by rw [← hW1, ← hB]; simp
  have hL1 : W1.heap[B + 1]? = some (.loop (rec .ready none)) := by
    have := World.alloc_heap_new (w.alloc (.deferred (some []))) (.loop (rec .ready none))
    rwa [World.size_alloc, hW1, hB] at this
  have hK1 : W1.heap[B]? = some (.deferred (some [])) := by
    rw [← hW1, ← hB]; exact (Below.heap_alloc _ _ _ (by simp)).trans (World.alloc_heap_new w _)
  have hI1 : I [] W1 := by rw [← hW1]; exact hI.from.alloc _ (hI.from.alloc _ h0)
  have hb1 : Below w.heap.size w W1 := by
    rw [← hW1]; exact ((Below.refl _ w).alloc (Nat.le_refl _) _).alloc (by simp) _
  refine ⟨w.heap.size + 1, [{ target := .collected w.heap.size, args := #[] }], W1, { target := .fn (.func gf) lb, args := #[.func (.yield (w.heap.size + 1)) #[] #[]] }, W1, gf,
    #[.func (.yield (w.heap.size + 1)) #[] #[]] ++ lb, W1, ?_, ?_, ?_, ?_, fun _ => h1, ?_⟩
  · rw [← hW1, hrec]; exact run_enterLoop_outer _ _ _ _ _
  · simp only [resolve, hg]
    simp [go_sem]
  · intro f' hf'; simp [Target.leads] at hf'; subst hf'; exact hFg
  · simp [invoke, go_sem, eg]
  rw [hB] at hn hM hI hIx hassign hbody hdone hstop hAx hrec hb1 ⊢
  -- the book-keeping of the loop: its record at B + 1, the rounds' deferred calls at B
  have book : ∀ {X Y : World} {row : Option Nat} {k : Nat} {o : Obj}, k < B + 2 → X.grownBy Y row → (∀ r, row = some r → W1.heap.size ≤ r) → X.heap[k]? = some o → Y.heap[k]? = some o := fun hk hg' hr hx =>
    (hg'.block _ (Array.getElem?_eq_some_iff.1 hx).1 (fun e => by have := hr _ e.symm; omega)).trans hx
  have up : ∀ {row : Option Nat}, (∀ r, row = some r → W1.heap.size ≤ r) → ∀ r, row = some r → B ≤ r := fun hr r e => by have := hr r e; omega
  refine (hseq (B + 1)
    (fun pre W => I pre W ∧ W.heap[B + 1]? = some (.loop (rec .ready none)) ∧ W.heap[B]? = some (.deferred (some [])))
    (fun pre W => ∃ c, Ix c pre W ∧ W.heap[B + 1]? = some (.loop (rec .done (some c))) ∧ W.heap[B]? = some (.deferred (some [])))
    W1 (by rw [hB]; exact hb1) (by omega)
    (fun s X Y row hs hg' hr => ⟨hI s X Y row hs.1 hg' (up hr), book (by omega) hg' hr hs.2.1, book (by omega) hg' hr hs.2.2⟩)
    (fun s X Y row hs hg' hr => by
      obtain ⟨c, hc, hl, hk⟩ := hs
      exact ⟨c, hIx c s X Y row hc hg' (up hr), book (by omega) hg' hr hl, book (by omega) hg' hr hk⟩)
    ?_ ⟨hI1, hL1, hK1⟩).mono ?_
  · rintro pre x W ⟨hi, hl, hk⟩ hlen
    have hy := run_yield (P := P) (args := encs x) hl (by rw [hrec]; exact hps x)
    rw [hrec] at hy
    have hlt0 : B + 1 < W.heap.size := (Array.getElem?_eq_some_iff.1 hl).1
    refine ⟨fn, _, assign, body, hy, roundIn_of_wpIn hfn (hassign _ pre x W _ (by omega) hi ?_)⟩
    intro a' V hkf hkb hiV hax
    have hlV := hkf.same _ _ (by omega) hl rfl
    have hkV := hkf.same _ _ (Nat.le_refl _) hk rfl
    have hlt : B + 1 < V.heap.size := (Array.getElem?_eq_some_iff.1 hlV).1
    refine ⟨_, run_beginRound hlV (by rw [hrec]), ?_⟩
    obtain ⟨U, hU⟩ : ∃ U, V.putObj (B + 1) (.loop { rec .ready none with state := .busy }) = U := ⟨_, rfl⟩
    have hlU : U.heap[B + 1]? = some (.loop { rec .ready none with state := .busy }) := by rw [← hU]; exact World.putObj_heap_same hlt
    have hkU : U.heap[B]? = some (.deferred (some [])) := by rw [← hU]; exact (World.putObj_heap_other (by omega)).trans hkV
    have hbU : KeepsB n₀ M V U := by rw [← hU]; exact KeepsB.putObj _ (by omega) hlV rfl
    have hiU : I pre U := by rw [← hU]; exact hI.from.putObj _ hiV (by omega) hlV rfl
    have haU : Ax x a' U := by rw [← hU]; exact (hAx x a').putObj (s := ()) _ hax (by omega) hlV rfl
    have hsU : B ≤ U.heap.size := by have := (Array.getElem?_eq_some_iff.1 hlU).1; omega
    rw [hU]
    refine wpIn_mono (hbody _ pre x a' U hsU hiU haU hlen) ?_
    have fin : ∀ (jump : Option Code) (Z : World), KeepsFrom B U Z →
        (Instr.endRound (B + 1) jump).run P Z = .ok (.bool jump.isNone) (Z.putObj (B + 1) (.loop (rec (if jump.isNone then .ready else .done) jump))) ∧
        Z.heap[B + 1]? = some (.loop { rec .ready none with state := .busy }) ∧
        (Z.putObj (B + 1) (.loop (rec (if jump.isNone then .ready else .done) jump))).heap[B + 1]? = some (.loop (rec (if jump.isNone then .ready else .done) jump)) ∧
        (Z.putObj (B + 1) (.loop (rec (if jump.isNone then .ready else .done) jump))).heap[B]? = some (.deferred (some [])) := fun jump Z hz => by
      have hl3 := hz.same _ _ (by omega) hlU rfl
      have := run_endRound (P := P) jump hl3
      rw [hrec] at this ⊢
      exact ⟨this, by rw [hrec] at hl3; exact hl3, World.putObj_heap_same (Array.getElem?_eq_some_iff.1 hl3).1, (World.putObj_heap_other (by omega)).trans (hz.same _ _ (Nat.le_refl _) hkU rfl)⟩
    have left : ∀ (c : Code) (Z : World), KeepsFrom B U Z → Ix c (pre ++ [x]) Z → ∃ v Z', (Instr.endRound (B + 1) (some c)).run P Z = .ok v Z' ∧ ((Ending.returned v = .returned (.bool true) ∧ (I (pre ++ [x]) Z' ∧ Z'.heap[B + 1]? = some (.loop (rec .ready none)) ∧ Z'.heap[B]? = some (.deferred (some []))) ∧ KeepsB n₀ M W Z') ∨
        (Ending.returned v = .returned (.bool false) ∧ ∃ c, Ix c (pre ++ [x]) Z' ∧ Z'.heap[B + 1]? = some (.loop (rec .done (some c))) ∧ Z'.heap[B]? = some (.deferred (some [])))) := fun c Z hz hx => by
      obtain ⟨hr, hl3, hl4, hk4⟩ := fin (some c) Z hz
      exact ⟨_, _, hr, .inr ⟨rfl, c, (hIx c).from.putObj _ hx (by omega) hl3 rfl, hl4, hk4⟩⟩
    rintro e a3 Z hp
    cases e with
    | normal =>
      obtain ⟨hz, hkp3, hi3⟩ := hp
      obtain ⟨hr, hl3, hl4, hk4⟩ := fin none Z hz
      exact ⟨_, _, hr, .inl ⟨rfl, ⟨hI.from.putObj _ hi3 (by omega) hl3 rfl, hl4, hk4⟩, hkb.trans (hbU.trans (hkp3.trans (KeepsB.putObj _ (by omega) hl3 rfl)))⟩⟩
    | ret => exact left .ret Z hp.1 hp.2
    | exit id => exact left (.exit id) Z hp.1 hp.2
    | goto t => exact left (.goto t) Z hp.1 hp.2
    | panic ch => exact hp.elim
    | outgrown => exact hp.elim
  · rintro e Z ⟨⟨v, rfl⟩, (⟨xs, hS, hi, hl, hk⟩ | ⟨pre, hSp, c, hi, hl, hk⟩)⟩
    · exact ⟨none, _, by have := run_endLoop (P := P) hl (by rw [hrec]; simp); rw [hrec] at this; exact this, hdone _ xs _ (Nat.le_refl _) hS (hI.from.putObj _ hi (by omega) hl rfl) ((World.putObj_heap_other (by omega)).trans hk)⟩
    · exact ⟨some c, _, by have := run_endLoop (P := P) hl (by rw [hrec]; simp); rw [hrec] at this; exact this, hstop _ c pre _ (Nat.le_refl _) hSp ((hIx c).from.putObj _ hi (by omega) hl rfl) ((World.putObj_heap_other (by omega)).trans hk)⟩


/-! ### A region in a round is walked as outside -/
def NoDefer (ops : Array Oper) : Bool := ops.all fun o => match o.op with | .defer _ => false | _ => true
theorem NoDefer.at {ops : Array Oper} (h : NoDefer ops = true) {i : Nat} {o : Oper} (ho : ops[i]? = some o) (c : Call) : o.op ≠ .defer c := by
  intro e
  obtain ⟨hlt, rfl⟩ := Array.getElem?_eq_some_iff.1 ho
  have := (Array.all_eq_true.1 h) i hlt
  rw [e] at this
  cases this
theorem oper_round {ops : Array Oper} {Q : Exit → Act → World → Prop} {l : Nat} {o : Oper} {a : Act} {w : World} {K : Act → World → Prop} (hd : ∀ c, o.op ≠ .defer c) (h : Oper.wpIn Fence.wide n P o a w K Q) : Oper.wpIn (Fence.wide.inRound l) n P o a w K Q := by
  unfold Oper.wpIn at *
  refine ⟨h.1, ?_⟩
  have h2 := h.2
  rw [Oper.semAt_eq _ _ _ hd] at h2 ⊢
  generalize (execOp a.eval o).run P w = r at *
  cases r with
  | ok x w' => cases x <;> exact h2
  | halt x w' => cases x <;> exact h2
theorem any_round {ops : Array Oper} {Q : Exit → Act → World → Prop} {l : Nat} {md : Region.Mode} (hd : NoDefer ops = true) : ∀ (fuel : Nat) (listed : Array Bool) (a : Act) (w : World), wpAnyIn Fence.wide n P md ops Q fuel listed a w → wpAnyIn (Fence.wide.inRound l) n P md ops Q fuel listed a w
  | 0, _, _, _, h => h
  | fuel + 1, listed, a, w, h => ⟨h.1, fun i hi => by
    have := wpOpIn_mono (fun a' w' hh => any_round (l := l) hd fuel (listed.setIfInBounds i true) a' w' hh) (h.2 i hi)
    unfold wpOpIn at *
    split
    · simp_all
    · rename_i o ho
      simp only [ho] at this
      split
      · rename_i hw
        simp only [hw, if_true] at this
        exact oper_round (ops := ops) (NoDefer.at hd ho) this
      · rename_i hw
        simp only [hw] at this
        exact this⟩
theorem region_round {ops : Array Oper} {Q : Exit → Act → World → Prop} {l id : Nat} {a : Act} {w : World} (hm : P.follows .mixedOrders = true) (hd : NoDefer ops = true)
    (h : wpAnyIn Fence.wide n P .any ops Q ops.size (Array.replicate ops.size false) a w.drew) : (Code.region id ops true).wpIn (Fence.wide.inRound l) n P Q a w :=
  wpIn_region_any hm (any_round hd _ _ _ _ h)
theorem quiet_round {ops : List Oper} {Q : Exit → Act → World → Prop} {l id : Nat} {a : Act} {w : World} (hm : P.follows .mixedOrders = true) (hd : NoDefer ops.toArray = true) (hB : Region.lexB .any ops.toArray = true)
    (h : wpQuietIn Fence.wide n P ops.toArray (fun w' => ∃ n, w' = w.drewN n) (fun a' => ∀ w', (∃ n, w' = w.drewN n) → Q .normal a' w') ops a) : (Code.region id ops.toArray true).wpIn (Fence.wide.inRound l) n P Q a w := by
  simp only [Region.lexB, Bool.and_eq_true] at hB
  refine region_round hm hd (wpAnyIn_of_quiet (C := fun w' => ∃ n, w' = w.drewN n) (Q := fun a' => ∀ w', (∃ n, w' = w.drewN n) → Q .normal a' w') rfl (fun _ w' hw' h => h w' hw') _ _ _ _ ⟨1, rfl⟩ ?_)
  have := wpAnyQIn_lex (F := Fence.wide) (n := n) (P := P) (C := fun w' => ∃ n, w' = w.drewN n) (md := .any) hB.1 ops 0 (Array.replicate ops.toArray.size false) a (by simp) (by simpa using hB.2) h
  simpa using this

end Go.Proofs.Ytnfcbhoaebcndaa.Loop
