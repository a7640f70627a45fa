-- What the row's laid condition gives the walks: the table's cells; and a start that meets it.
import Derived.Test.YtbfcplnaafnlhaaDoorRows
import Derived.Test.YtbfcplnaafnlhaaDoorLaid
import Derived.ProofKit
import Derived.LaidMore
import Derived.OpenShut
import Derived.Stop.Joined
namespace Go.Proofs.YtbfcplnaafnlhaaDoor
open Go.ChangeShapes Go.WideShapes Go.ChangeAt Go.WideElems Go.RowKit
def laidL : List (String × DataW Unit) := [("plenum/psychro.table", Rows.laid_plenum_psychro_table)]
theorem gTable : Tryd.prog.globalNamed "plenum/psychro.table" = some 0 := by kernel_rfl
theorem tTable : (Tryd.prog.globals[0]?).map (·.type) = some 45 := by kernel_rfl
theorem uTable : Tryd.prog.underlying 45 = some (.array 17 2) := by kernel_rfl
/-- The door's own heap meets the condition. -/
theorem door_met (os : Os) (args : Array Value) : laidMetH Tryd.prog laidL ((World.doorLaid Tryd.prog 400 os).forCall (fun _ _ => 0) ⟨#[], args, []⟩).memory :=
  laidMetH_of_parts3 (fuel := 8) (laidMet_of_run' 8 (by kernel_rfl) (by kernel_rfl)) (by kernel_rfl) (by kernel_rfl)
theorem of_laid {W : World} (h : laidMetH Tryd.prog laidL W) : PT.LaidT W := by
  rw [MakeChecks.laidMetH_plain _ _ _ (by kernel_rfl)] at h
  obtain ⟨ps, ⟨g0, t0, cs0, f0, p0, q0, hg0, ht0, hv0, hd0, _, _⟩, _, _⟩ := h
  obtain rfl := Option.some.inj (gTable.symm.trans hg0)
  obtain rfl := Option.some.inj (tTable.symm.trans ht0)
  obtain ⟨xs, m, rfl, hx, hlen, hn, hel⟩ := DataW.trod_array uTable hd0
  have c2 : Tryd.prog.cellsOf 2 = 1 := by kernel_rfl
  simp only [Prod.mk.injEq, Rows.laid_plenum_psychro_table, DataW.agg.injEq] at hx
  intro i hi
  have hci := World.var?_cell hg0 hv0 i
  rw [hci]
  have h1 := hel i hi
  rw [c2] at h1
  have hxi : ∃ x, xs[i]? = some x := ⟨xs[i], by simp⟩
  obtain ⟨x, hx0⟩ := hxi
  rw [hx0] at h1
  obtain ⟨k, e1, e2, _⟩ := DataW.trod_int (show Tryd.prog.underlying 2 = some (.int .i64) from Tryd.underlying2) h1
  have hxk : (xs.map (·.1))[i]? = some (.lit (.int .i64 k)) := by rw [List.getElem?_map, hx0, e2]; rfl
  rw [← hx.1] at hxk
  have hk : k = PT.tbl.getD i 0 := by
    have hall : ∀ j : Fin 17, ([.lit (.int .i64 637), .lit (.int .i64 1020), .lit (.int .i64 1603), .lit (.int .i64 2487), .lit (.int .i64 3789), .lit (.int .i64 5424), .lit (.int .i64 7661), .lit (.int .i64 10694), .lit (.int .i64 14757), .lit (.int .i64 20170), .lit (.int .i64 27329), .lit (.int .i64 36756), .lit (.int .i64 49141), .lit (.int .i64 65411), .lit (.int .i64 86858), .lit (.int .i64 115321), .lit (.int .i64 153540)] : List (DataW Unit))[j.val]? = some (.lit (.int .i64 (PT.tbl.getD j.val 0))) := by
      intro ⟨j, hj⟩
      match j, hj with
      | 0, _ | 1, _ | 2, _ | 3, _ | 4, _ | 5, _ | 6, _ | 7, _ | 8, _ | 9, _ | 10, _ | 11, _ | 12, _ | 13, _ | 14, _ | 15, _ | 16, _ => rfl
      | n+17, h => omega
    have := hxk.symm.trans (hall ⟨i, hi⟩)
    simpa using this
  subst hk
  have : (cs0.toList)[i]? = some (.int .i64 (PT.tbl.getD i 0)) := by
    have e3 : ((cs0.toList.drop (i * 1)).take 1)[0]? = some (.int .i64 (PT.tbl.getD i 0)) := by rw [e1]; rfl
    simpa using e3
  simpa using this
end Go.Proofs.YtbfcplnaafnlhaaDoor
