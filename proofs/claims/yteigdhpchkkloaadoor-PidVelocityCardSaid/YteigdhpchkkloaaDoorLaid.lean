-- The laid table of blocks: what a look-up of the block pid finds.
import Derived.Test.YteigdhpchkkloaaDoorRows
import Derived.Test.YteigdhpchkkloaaDoorPTx0
import Derived.ProofKit
import Derived.LaidMore
import Derived.OpenShut
import Derived.Stop.Joined
namespace Go.Proofs.YteigdhpchkkloaaDoor
open Go.ChangeShapes Go.WideShapes Go.ChangeAt Go.WideMaps Go.WideElems Go.RowKit
def laidL : List (String × DataW Unit) := [("plenum/pid.blocks", Rows.laid_plenum_pid_blocks)]
theorem gBlocks : Tryd.prog.globalNamed "plenum/pid.blocks" = some 0 := by kernel_rfl
theorem tBlocks : (Tryd.prog.globals[0]?).map (·.type) = some 58 := by kernel_rfl
theorem keyLaw : KeyLaw Tryd.prog 9 := string_law Tryd.underlying9
/-- The door's own heap meets the condition. -/
theorem door_met (os : Os) (args : Array Value) : laidMetH Tryd.prog laidL ((World.doorLaid Tryd.prog 600 os).forCall (fun _ _ => 0) ⟨#[], args, []⟩).memory :=
  laidMetH_of_parts3 (fuel := 8) (laidMet_of_run' 8 (by kernel_rfl) (by kernel_rfl)) (by kernel_rfl) (by kernel_rfl)
namespace PT
/-- A world that goes on from one in which the table is laid. -/
def LaidT (w : World) : Prop := ∃ W0, laidMetH Tryd.prog laidL W0 ∧ Below W0.heap.size W0 w
theorem LaidT.below {w w' : World} (h : LaidT w) (b : Below w.heap.size w w') : LaidT w' := by
  obtain ⟨W0, h0, b0⟩ := h
  exact ⟨W0, h0, b0.trans (b.mono b0.size)⟩
def pidS : ByteArray := ⟨#[112, 105, 100]⟩
def kindV (b off cap : Nat) : Value := .agg #[.int .i64 5, .int .i64 3, .slice (some ⟨b, off, none⟩) 3 cap, .func (.func 60) #[] #[], .func (.func 62) #[] #[]]
def pidD : DataW (List UInt8) := .agg [.lit (.int .i64 5), .lit (.int .i64 3), .slice [.lit (.int .i64 1), .lit (.int .i64 1), .lit (.int .i64 2)] [], .held [112, 108, 101, 110, 117, 109, 47, 112, 105, 100, 46, 98, 108, 111, 99, 107, 115, 36, 49], .held [112, 108, 101, 110, 117, 109, 47, 112, 105, 100, 46, 98, 108, 111, 99, 107, 115, 36, 50]]
def rateD : DataW (List UInt8) := .agg [.lit (.int .i64 2), .lit (.int .i64 2), .slice [.lit (.int .i64 1)] [], .held [112, 108, 101, 110, 117, 109, 47, 112, 105, 100, 46, 98, 108, 111, 99, 107, 115, 36, 51], .held [112, 108, 101, 110, 117, 109, 47, 112, 105, 100, 46, 98, 108, 111, 99, 107, 115, 36, 52]]
theorem array5 {α : Type} {cs : Array α} (h : cs.size = 5) : ∃ c0 c1 c2 c3 c4, cs = #[c0, c1, c2, c3, c4] := by
  obtain ⟨l⟩ := cs
  match l, h with
  | [c0, c1, c2, c3, c4], _ => exact ⟨c0, c1, c2, c3, c4, rfl⟩
/-- A row of the table that reads as that of the block pid. -/
theorem kind_open {W : World} {n : Nat} {v : Value} {z : DataW (List UInt8) × List MemPlace} (h : elemAt (funcToken Tryd.prog) Tryd.prog W 0 (fun _ => true) true n 56 v = some z) (hz : z.1 = pidD) :
    ∃ b off cap, v = kindV b off cap ∧ 3 ≤ cap ∧ W.cell? ⟨b, off, none⟩ = some (.int .i64 1) ∧ W.cell? ⟨b, off + 1, none⟩ = some (.int .i64 1) ∧ W.cell? ⟨b, off + 2, none⟩ = some (.int .i64 2) := by
  unfold elemAt at h
  split at h
  · rename_i hf
    have hC : Tryd.prog.cellsOf 56 = 5 := by kernel_rfl
    have hv : ∃ c0 c1 c2 c3 c4, v = .agg #[c0, c1, c2, c3, c4] := by
      cases v <;> simp [Value.formed, Tryd.underlying56] at hf
      rename_i cs
      have : cs.size = 5 := by rw [← hC]; simpa using hf
      obtain ⟨c0, c1, c2, c3, c4, rfl⟩ := array5 this
      exact ⟨c0, c1, c2, c3, c4, rfl⟩
    obtain ⟨c0, c1, c2, c3, c4, rfl⟩ := hv
    obtain ⟨xs, m, _, hx, hl, hlen, hf2⟩ := DataW.trod_struct Tryd.underlying56 h
    have e3 : Tryd.prog.cellsOf 3 = 1 := by kernel_rfl
    have e53 : Tryd.prog.cellsOf 53 = 1 := by kernel_rfl
    have e47 : Tryd.prog.cellsOf 47 = 1 := by kernel_rfl
    have e54 : Tryd.prog.cellsOf 54 = 1 := by kernel_rfl
    match xs, hlen with
    | [y0, y1, y2, y3, y4], _ =>
      have g0 := hf2 0 _ rfl
      have g1 := hf2 1 _ rfl
      have g2 := hf2 2 _ rfl
      have g3 := hf2 3 _ rfl
      have g4 := hf2 4 _ rfl
      simp [Value.cells, e3, e53, e47, e54] at g0 g1 g2 g3 g4
      subst hx
      simp only [pidD, DataW.agg.injEq, List.map_cons, List.map_nil, List.cons.injEq, and_true] at hz
      obtain ⟨z0, z1, z2, z3, z4⟩ := hz
      obtain ⟨a0, q0, s0, _⟩ := DataW.trod_int Tryd.underlying3 g0
      obtain ⟨a1, q1, s1, _⟩ := DataW.trod_int Tryd.underlying3 g1
      rw [s0] at z0
      rw [s1] at z1
      simp at z0 z1 q0 q1
      subst z0 z1 q0 q1
      obtain ⟨y2a, y2b⟩ := y2
      obtain ⟨y3a, y3b⟩ := y3
      obtain ⟨y4a, y4b⟩ := y4
      simp only at z2 z3 z4
      subst z2 z3 z4
      obtain ⟨a, cap, hcs, hcap, hel⟩ := open_row Tryd.underlying53 e3 g2
      obtain ⟨v0, n0, p0, hc0, hr0⟩ := hel 0 _ rfl
      obtain ⟨v1, n1, p1, hc1, hr1⟩ := hel 1 _ rfl
      obtain ⟨v2, n2, p2, hc2, hr2⟩ := hel 2 _ rfl
      obtain ⟨i0, r0, t0, _⟩ := DataW.trod_int Tryd.underlying3 hr0
      obtain ⟨i1, r1, t1, _⟩ := DataW.trod_int Tryd.underlying3 hr1
      obtain ⟨i2, r2, t2, _⟩ := DataW.trod_int Tryd.underlying3 hr2
      simp at r0 r1 r2 t0 t1 t2
      obtain ⟨t0, _⟩ := t0
      obtain ⟨t1, _⟩ := t1
      obtain ⟨t2, _⟩ := t2
      subst r0 r1 r2 t0 t1 t2
      obtain rfl := func_of_trod (f0 := 60) Tryd.underlying47 (by kernel_rfl) g3
      obtain rfl := func_of_trod (f0 := 62) Tryd.underlying54 (by kernel_rfl) g4
      obtain ⟨b, off, spot⟩ := a
      have hspot : spot = none := by simpa [Addr.add] using World.cell?_spot hc0
      subst hspot
      simp at hcs
      subst hcs
      exact ⟨b, off, cap, rfl, by simpa using hcap, by simpa [Addr.add] using hc0, by simpa [Addr.add] using hc1, by simpa [Addr.add] using hc2⟩
  · cases h
theorem below_cell {n : Nat} {w w' : World} (b : Below n w w') (_hn : n ≤ w.heap.size) {x : Nat} {o : Nat} {v : Value} (h : w.cell? ⟨x, o, none⟩ = some v) (hx : x < n) : w'.cell? ⟨x, o, none⟩ = some v := by
  rw [World.cell?_of_block (b.block _ hx)]
  exact h
theorem LaidT.look {w : World} (h : LaidT w) : ∃ bm b off cap, w.cell? ⟨0, 0, none⟩ = some (.map (some bm)) ∧ (Instr.lookup 58 (.map (some bm)) (.string pidS) true).run Tryd.prog w = .ok (.tuple #[kindV b off cap, .bool true]) w ∧
    3 ≤ cap ∧ b < w.heap.size ∧ w.cell? ⟨b, off, none⟩ = some (.int .i64 1) ∧ w.cell? ⟨b, off + 1, none⟩ = some (.int .i64 1) ∧ w.cell? ⟨b, off + 2, none⟩ = some (.int .i64 2) := by
  obtain ⟨W0, hL, hB⟩ := h
  obtain ⟨g, t, cs, fuel, p, hg, ht, hv, hd⟩ := hL.funcs (List.mem_singleton.2 rfl)
  obtain rfl := Option.some.inj (gBlocks.symm.trans hg)
  obtain rfl := Option.some.inj (tBlocks.symm.trans ht)
  have hd' : DataW.trod (funcToken Tryd.prog) Tryd.prog W0 0 (fun _ => true) true fuel 58 cs.toList = some (.map [(.string [112, 105, 100], pidD), (.string [114, 97, 116, 101], rateD)], p) := hd
  have zero : ∀ W : World, ∃ z, (zeroValue 56).run Tryd.prog W = .ok z W := fun W => ⟨.agg #[.int .i64 0, .int .i64 0, .slice none 0 0, .nilFunc, .nilFunc], by kernel_rfl⟩
  rcases open_map Tryd.underlying58 hd' with ⟨_, hx⟩ | ⟨bm, es, clock, m, rfl, hcs, hb, _, F, hx⟩
  · simp at hx
  simp only [Prod.mk.injEq] at hx
  have hcell : W0.cell? ⟨0, 0, none⟩ = some (.map (some bm)) := by
    have := World.var?_cell hg hv 0
    rw [Array.eq_one_of_toList hcs] at this
    simpa using this
  have hlt : bm < W0.heap.size := (Array.getElem?_eq_some_iff.1 hb).1
  have h0 : (0 : Nat) < W0.heap.size := World.block_lt_of_cell? W0 _ hcell
  have hbw : w.heap[bm]? = some (.map es clock) := (hB.block _ hlt).trans hb
  obtain ⟨z, hz⟩ := zero w
  rcases fit_lookup_ok (w := w) keyLaw Tryd.underlying58 hz hbw F (keyOf_string_mk (s := pidS) Tryd.underlying9 (by decide)) with ⟨_, hat⟩ | ⟨v, y, hrun, hRv, hat, _⟩
  · have := hat .nil
    rw [← hx.1] at this
    exact absurd this (by intro e; cases e)
  · have hy := hat .nil
    rw [← hx.1] at hy
    have e2 : (DataW.map [(.string [112, 105, 100], pidD), (.string [114, 97, 116, 101], rateD)] : DataW (List UInt8)).atKey (.string pidS.data.toList) .nil = pidD := rfl
    rw [e2] at hy
    obtain ⟨b, off, cap, rfl, hcap, c0, c1, c2⟩ := kind_open hRv hy.symm
    have hbl : b < W0.heap.size := World.block_lt_of_cell? W0 _ c0
    exact ⟨bm, b, off, cap, below_cell hB (Nat.le_refl _) hcell h0, hrun, hcap, Nat.lt_of_lt_of_le hbl hB.size, below_cell hB (Nat.le_refl _) c0 hbl, below_cell hB (Nat.le_refl _) c1 hbl, below_cell hB (Nat.le_refl _) c2 hbl⟩
end PT
theorem of_laid {W : World} (h : laidMetH Tryd.prog laidL W) : PT.LaidT W := ⟨W, h, Below.refl _ _⟩
end Go.Proofs.YteigdhpchkkloaaDoor
