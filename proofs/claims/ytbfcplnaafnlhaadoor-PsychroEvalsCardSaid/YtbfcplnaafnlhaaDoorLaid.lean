-- The laid table of saturated air.
import Derived.Test.YtbfcplnaafnlhaaDoorPTx0
namespace Go.Proofs.YtbfcplnaafnlhaaDoor.PT
open Go.RowKit Go.Proofs.YtbfcplnaafnlhaaDoorW.PrintWords Go.Proofs.YtbfcplnaafnlhaaDoorW.PrintLast Go.Proofs.YtbfcplnaafnlhaaDoorW.PrintMore
def tbl : List Int := [637, 1020, 1603, 2487, 3789, 5424, 7661, 10694, 14757, 20170, 27329, 36756, 49141, 65411, 86858, 115321, 153540]
/-- The table's cells hold the numbers of saturated air. -/
def LaidT (w : World) : Prop := ∀ i : Nat, i < 17 → w.cell? ⟨0, i, none⟩ = some (.int .i64 (tbl.getD i 0))
theorem LaidT.below {w w' : World} (h : LaidT w) (b : Below w.heap.size w w') : LaidT w' := fun i hi => by
  have h1 := h i hi
  have h2 : (⟨0, i, none⟩ : Addr).block < w.heap.size := World.block_lt_of_cell? w _ h1
  rw [World.cell?_of_block (b.block _ h2)]
  exact h1
theorem LaidT.at {w : World} (h : LaidT w) (i : Int) (h0 : 0 ≤ i) (h1 : i < 17) : w.cell? (Addr.add ⟨0, 0, none⟩ i.toNat) = some (.int .i64 (rd tbl i)) := by
  have := h i.toNat (by omega)
  have e : Addr.add ⟨0, 0, none⟩ i.toNat = ⟨0, i.toNat, none⟩ := by simp [Addr.add]; try omega
  rw [e]
  exact this
end Go.Proofs.YtbfcplnaafnlhaaDoor.PT
