/-
  No cell of these rows narrows 'for every input' (looked for: loops, veiled, ifaces, maps, wideKeys, modest, calm, conditions, laid).
  DERIVED. THE GIVEN ROWS OF THIS SEAT. 8 by the template 'for every input the law returns true; each argument reads behind the call as it read before'; 0 by the template 'total and deterministic' (their statements: YtacheoimnckghaaTotals.lean).
  GIVEN WITH THE SEED: the statements are not yours to turn. If you find one false, say at which input.
  Laid BY PROGRAM, IN A SANDBOX (cutbox-rows.mjs): the forced cells as the released guide's own fill.sh prints them over the translation be15617b796e6929… (all of the seat's roots in one cut). By AI agents, Wed Nov 11 2026. No macro, syntax, notation, axiom, sorry.
-/
import Derived.Test.YtacheoimnckghaaChecked
import GoSem.Claim
import GoSem.ClaimJoined
import GoSem.ClaimMapViews
import Derived.JoinedTies
import Derived.KernelRfl
namespace Go.Proofs.Ytacheoimnckghaa
/- THE CELL 'sum', in the pinned program and in every row, IS THE sha256 OF THE DUMP (.gsa) THAT YtacheoimnckghaaProg.lean LOADS. Nothing in Lean hashes anything: it is a label: what it is worth is what the hold of that sum in a sandbox is worth. -/
noncomputable def Try.pinned : Pinned := { name := "ytacheoimnckghaa", sum := "be15617b796e6929e85960e2812da6fcc672dafe06980e2bbdc4f392bad27a5e", checked := Try.checked }
namespace Rows
def none {H : Type} : Left H := { results := [], args := [] }

/-- 'plenumlaw03.CurveChanges': WHATEVER THE INPUT: true; the input reads as it did. -/
def curveChangesSpec : ChangeSpec := { name := "curveChanges", fn := fun _ => fun
  | [d1, d2, d3] => { results := [.lit (.bool true)], args := [d1, d2, d3] }
  | _ => none }
def curveChangesRow : OpenClaim := { program := "ytacheoimnckghaa", sum := "be15617b796e6929e85960e2812da6fcc672dafe06980e2bbdc4f392bad27a5e", func := "plenum/plenumlaw03.CurveChanges", spec := "curveChanges", unfollowed := true, recurses := true, named := ["math/bits.divideError", "math/bits.overflowError"], apart := false }
def CurveChangesSaid : Prop := curveChangesRow.holds Try.pinned (OpenSpec.ofChange curveChangesSpec)

/-- ITS FALSE NEIGHBOUR: 'it returns false'. Refute it at one input. -/
def curveChangesWrong : ChangeSpec := { name := "curveChanges", fn := fun _ => fun
  | [d1, d2, d3] => { results := [.lit (.bool false)], args := [d1, d2, d3] }
  | _ => none }
def CurveChangesWrongFalsely : Prop := curveChangesRow.holds Try.pinned (OpenSpec.ofChange curveChangesWrong)

/-- 'plenumlaw03.CurveShifts': WHATEVER THE INPUT: true; the input reads as it did. -/
def curveShiftsSpec : ChangeSpec := { name := "curveShifts", fn := fun _ => fun
  | [d1, d2, d3, d4] => { results := [.lit (.bool true)], args := [d1, d2, d3, d4] }
  | _ => none }
def curveShiftsRow : OpenClaim := { program := "ytacheoimnckghaa", sum := "be15617b796e6929e85960e2812da6fcc672dafe06980e2bbdc4f392bad27a5e", func := "plenum/plenumlaw03.CurveShifts", spec := "curveShifts", unfollowed := true, recurses := true, named := ["math/bits.divideError", "math/bits.overflowError"], apart := false }
def CurveShiftsSaid : Prop := curveShiftsRow.holds Try.pinned (OpenSpec.ofChange curveShiftsSpec)

/-- ITS FALSE NEIGHBOUR: 'it returns false'. Refute it at one input. -/
def curveShiftsWrong : ChangeSpec := { name := "curveShifts", fn := fun _ => fun
  | [d1, d2, d3, d4] => { results := [.lit (.bool false)], args := [d1, d2, d3, d4] }
  | _ => none }
def CurveShiftsWrongFalsely : Prop := curveShiftsRow.holds Try.pinned (OpenSpec.ofChange curveShiftsWrong)

/-- 'plenumlaw03.CurveEvals': WHATEVER THE INPUT: true; the input reads as it did. -/
def curveEvalsSpec : ChangeSpec := { name := "curveEvals", fn := fun _ => fun
  | [d1, d2] => { results := [.lit (.bool true)], args := [d1, d2] }
  | _ => none }
def curveEvalsRow : OpenClaim := { program := "ytacheoimnckghaa", sum := "be15617b796e6929e85960e2812da6fcc672dafe06980e2bbdc4f392bad27a5e", func := "plenum/plenumlaw03.CurveEvals", spec := "curveEvals", unfollowed := true, recurses := true, named := ["math/bits.divideError", "math/bits.overflowError"], apart := false }
def CurveEvalsSaid : Prop := curveEvalsRow.holds Try.pinned (OpenSpec.ofChange curveEvalsSpec)

/-- ITS FALSE NEIGHBOUR: 'it returns false'. Refute it at one input. -/
def curveEvalsWrong : ChangeSpec := { name := "curveEvals", fn := fun _ => fun
  | [d1, d2] => { results := [.lit (.bool false)], args := [d1, d2] }
  | _ => none }
def CurveEvalsWrongFalsely : Prop := curveEvalsRow.holds Try.pinned (OpenSpec.ofChange curveEvalsWrong)

/-- 'plenumlaw03.CurveInverses': WHATEVER THE INPUT: true; the input reads as it did. -/
def curveInversesSpec : ChangeSpec := { name := "curveInverses", fn := fun _ => fun
  | [d1, d2, d3, d4] => { results := [.lit (.bool true)], args := [d1, d2, d3, d4] }
  | _ => none }
def curveInversesRow : OpenClaim := { program := "ytacheoimnckghaa", sum := "be15617b796e6929e85960e2812da6fcc672dafe06980e2bbdc4f392bad27a5e", func := "plenum/plenumlaw03.CurveInverses", spec := "curveInverses", unfollowed := true, recurses := true, named := ["math/bits.divideError", "math/bits.overflowError"], apart := false }
def CurveInversesSaid : Prop := curveInversesRow.holds Try.pinned (OpenSpec.ofChange curveInversesSpec)

/-- ITS FALSE NEIGHBOUR: 'it returns false'. Refute it at one input. -/
def curveInversesWrong : ChangeSpec := { name := "curveInverses", fn := fun _ => fun
  | [d1, d2, d3, d4] => { results := [.lit (.bool false)], args := [d1, d2, d3, d4] }
  | _ => none }
def CurveInversesWrongFalsely : Prop := curveInversesRow.holds Try.pinned (OpenSpec.ofChange curveInversesWrong)

/-- 'plenumlaw03.CurveBetween': WHATEVER THE INPUT: true; the input reads as it did. -/
def curveBetweenSpec : ChangeSpec := { name := "curveBetween", fn := fun _ => fun
  | [d1, d2, d3, d4] => { results := [.lit (.bool true)], args := [d1, d2, d3, d4] }
  | _ => none }
def curveBetweenRow : OpenClaim := { program := "ytacheoimnckghaa", sum := "be15617b796e6929e85960e2812da6fcc672dafe06980e2bbdc4f392bad27a5e", func := "plenum/plenumlaw03.CurveBetween", spec := "curveBetween", unfollowed := true, recurses := true, named := ["math/bits.divideError", "math/bits.overflowError"], apart := false }
def CurveBetweenSaid : Prop := curveBetweenRow.holds Try.pinned (OpenSpec.ofChange curveBetweenSpec)

/-- ITS FALSE NEIGHBOUR: 'it returns false'. Refute it at one input. -/
def curveBetweenWrong : ChangeSpec := { name := "curveBetween", fn := fun _ => fun
  | [d1, d2, d3, d4] => { results := [.lit (.bool false)], args := [d1, d2, d3, d4] }
  | _ => none }
def CurveBetweenWrongFalsely : Prop := curveBetweenRow.holds Try.pinned (OpenSpec.ofChange curveBetweenWrong)

/-- 'plenumlaw03.CurveMonotone': WHATEVER THE INPUT: true; the input reads as it did. -/
def curveMonotoneSpec : ChangeSpec := { name := "curveMonotone", fn := fun _ => fun
  | [d1, d2, d3] => { results := [.lit (.bool true)], args := [d1, d2, d3] }
  | _ => none }
def curveMonotoneRow : OpenClaim := { program := "ytacheoimnckghaa", sum := "be15617b796e6929e85960e2812da6fcc672dafe06980e2bbdc4f392bad27a5e", func := "plenum/plenumlaw03.CurveMonotone", spec := "curveMonotone", unfollowed := true, recurses := true, named := ["math/bits.divideError", "math/bits.overflowError"], apart := false }
def CurveMonotoneSaid : Prop := curveMonotoneRow.holds Try.pinned (OpenSpec.ofChange curveMonotoneSpec)

/-- ITS FALSE NEIGHBOUR: 'it returns false'. Refute it at one input. -/
def curveMonotoneWrong : ChangeSpec := { name := "curveMonotone", fn := fun _ => fun
  | [d1, d2, d3] => { results := [.lit (.bool false)], args := [d1, d2, d3] }
  | _ => none }
def CurveMonotoneWrongFalsely : Prop := curveMonotoneRow.holds Try.pinned (OpenSpec.ofChange curveMonotoneWrong)

/-- 'plenumlaw03.CurveLeast': WHATEVER THE INPUT: true; the input reads as it did. -/
def curveLeastSpec : ChangeSpec := { name := "curveLeast", fn := fun _ => fun
  | [d1, d2] => { results := [.lit (.bool true)], args := [d1, d2] }
  | _ => none }
def curveLeastRow : OpenClaim := { program := "ytacheoimnckghaa", sum := "be15617b796e6929e85960e2812da6fcc672dafe06980e2bbdc4f392bad27a5e", func := "plenum/plenumlaw03.CurveLeast", spec := "curveLeast", unfollowed := true, recurses := true, named := ["math/bits.divideError", "math/bits.overflowError"], apart := false }
def CurveLeastSaid : Prop := curveLeastRow.holds Try.pinned (OpenSpec.ofChange curveLeastSpec)

/-- ITS FALSE NEIGHBOUR: 'it returns false'. Refute it at one input. -/
def curveLeastWrong : ChangeSpec := { name := "curveLeast", fn := fun _ => fun
  | [d1, d2] => { results := [.lit (.bool false)], args := [d1, d2] }
  | _ => none }
def CurveLeastWrongFalsely : Prop := curveLeastRow.holds Try.pinned (OpenSpec.ofChange curveLeastWrong)

/-- 'plenumlaw03.CurveSimple': WHATEVER THE INPUT: true; the input reads as it did. -/
def curveSimpleSpec : ChangeSpec := { name := "curveSimple", fn := fun _ => fun
  | [d1, d2] => { results := [.lit (.bool true)], args := [d1, d2] }
  | _ => none }
def curveSimpleRow : OpenClaim := { program := "ytacheoimnckghaa", sum := "be15617b796e6929e85960e2812da6fcc672dafe06980e2bbdc4f392bad27a5e", func := "plenum/plenumlaw03.CurveSimple", spec := "curveSimple", unfollowed := true, recurses := true, named := ["math/bits.divideError", "math/bits.overflowError"], apart := false }
def CurveSimpleSaid : Prop := curveSimpleRow.holds Try.pinned (OpenSpec.ofChange curveSimpleSpec)

/-- ITS FALSE NEIGHBOUR: 'it returns false'. Refute it at one input. -/
def curveSimpleWrong : ChangeSpec := { name := "curveSimple", fn := fun _ => fun
  | [d1, d2] => { results := [.lit (.bool false)], args := [d1, d2] }
  | _ => none }
def CurveSimpleWrongFalsely : Prop := curveSimpleRow.holds Try.pinned (OpenSpec.ofChange curveSimpleWrong)

/- THE SECOND FORM. 'bulk': how many values and letters a reading holds, each counted each time it is reached (what is shared counts as often as it is met; a slice's spare places count too). A statement '..UptoSaid' is the law's where the arguments, and the package variables that the reading takes, are together of bulk at most 1048576: NARROWER than '..Said'. Prove '..Said' where nothing that the law and all that it calls make is longer than what came in: it says more and counts as full. Else prove '..UptoSaid'. A law counts once. -/
mutual
def uptoBulk {H : Type} : DataW H → Nat
  | .lit (.string bytes) => bytes.length + 1
  | .lit _ => 1
  | .nil => 1
  | .ptr d => uptoBulk d + 1
  | .slice elems spare => uptoBulkAll elems + uptoBulkAll spare + 1
  | .agg parts => uptoBulkAll parts + 1
  | .iface _ d => uptoBulk d + 1
  | .map entries => uptoBulkEntries entries + 1
  | .held _ => 1
def uptoBulkAll {H : Type} : List (DataW H) → Nat
  | [] => 0
  | d :: r => uptoBulk d + uptoBulkAll r
def uptoBulkEntries {H : Type} : List (Lit × DataW H) → Nat
  | [] => 0
  | x :: r => uptoBulkEntry x + uptoBulkEntries r
def uptoBulkEntry {H : Type} : Lit × DataW H → Nat
  | (.string bytes, d) => bytes.length + uptoBulk d + 1
  | (_, d) => uptoBulk d + 1
 end
def uptoSmall : (H : Type) → List (DataW H) → Bool := fun _ ds => decide (uptoBulkAll ds ≤ 1048576)
def OpenSpec.upto (s : _root_.Go.ChangeSpec) : _root_.Go.OpenSpec := { _root_.Go.OpenSpec.ofChange s with cond := some uptoSmall }

/-- 'plenumlaw03.CurveChanges', WHERE WHAT IT READS IS OF BULK AT MOST 1048576: true; the input reads as it did. -/
def curveChangesUptoRow : OpenClaim := { program := "ytacheoimnckghaa", sum := "be15617b796e6929e85960e2812da6fcc672dafe06980e2bbdc4f392bad27a5e", func := "plenum/plenumlaw03.CurveChanges", spec := "curveChanges", unfollowed := true, recurses := true, named := ["math/bits.divideError", "math/bits.overflowError"], apart := false, narrowed := true }
def CurveChangesUptoSaid : Prop := curveChangesUptoRow.holds Try.pinned (OpenSpec.upto curveChangesSpec)

/-- 'plenumlaw03.CurveShifts', WHERE WHAT IT READS IS OF BULK AT MOST 1048576: true; the input reads as it did. -/
def curveShiftsUptoRow : OpenClaim := { program := "ytacheoimnckghaa", sum := "be15617b796e6929e85960e2812da6fcc672dafe06980e2bbdc4f392bad27a5e", func := "plenum/plenumlaw03.CurveShifts", spec := "curveShifts", unfollowed := true, recurses := true, named := ["math/bits.divideError", "math/bits.overflowError"], apart := false, narrowed := true }
def CurveShiftsUptoSaid : Prop := curveShiftsUptoRow.holds Try.pinned (OpenSpec.upto curveShiftsSpec)

/-- 'plenumlaw03.CurveEvals', WHERE WHAT IT READS IS OF BULK AT MOST 1048576: true; the input reads as it did. -/
def curveEvalsUptoRow : OpenClaim := { program := "ytacheoimnckghaa", sum := "be15617b796e6929e85960e2812da6fcc672dafe06980e2bbdc4f392bad27a5e", func := "plenum/plenumlaw03.CurveEvals", spec := "curveEvals", unfollowed := true, recurses := true, named := ["math/bits.divideError", "math/bits.overflowError"], apart := false, narrowed := true }
def CurveEvalsUptoSaid : Prop := curveEvalsUptoRow.holds Try.pinned (OpenSpec.upto curveEvalsSpec)

/-- 'plenumlaw03.CurveInverses', WHERE WHAT IT READS IS OF BULK AT MOST 1048576: true; the input reads as it did. -/
def curveInversesUptoRow : OpenClaim := { program := "ytacheoimnckghaa", sum := "be15617b796e6929e85960e2812da6fcc672dafe06980e2bbdc4f392bad27a5e", func := "plenum/plenumlaw03.CurveInverses", spec := "curveInverses", unfollowed := true, recurses := true, named := ["math/bits.divideError", "math/bits.overflowError"], apart := false, narrowed := true }
def CurveInversesUptoSaid : Prop := curveInversesUptoRow.holds Try.pinned (OpenSpec.upto curveInversesSpec)

/-- 'plenumlaw03.CurveBetween', WHERE WHAT IT READS IS OF BULK AT MOST 1048576: true; the input reads as it did. -/
def curveBetweenUptoRow : OpenClaim := { program := "ytacheoimnckghaa", sum := "be15617b796e6929e85960e2812da6fcc672dafe06980e2bbdc4f392bad27a5e", func := "plenum/plenumlaw03.CurveBetween", spec := "curveBetween", unfollowed := true, recurses := true, named := ["math/bits.divideError", "math/bits.overflowError"], apart := false, narrowed := true }
def CurveBetweenUptoSaid : Prop := curveBetweenUptoRow.holds Try.pinned (OpenSpec.upto curveBetweenSpec)

/-- 'plenumlaw03.CurveMonotone', WHERE WHAT IT READS IS OF BULK AT MOST 1048576: true; the input reads as it did. -/
def curveMonotoneUptoRow : OpenClaim := { program := "ytacheoimnckghaa", sum := "be15617b796e6929e85960e2812da6fcc672dafe06980e2bbdc4f392bad27a5e", func := "plenum/plenumlaw03.CurveMonotone", spec := "curveMonotone", unfollowed := true, recurses := true, named := ["math/bits.divideError", "math/bits.overflowError"], apart := false, narrowed := true }
def CurveMonotoneUptoSaid : Prop := curveMonotoneUptoRow.holds Try.pinned (OpenSpec.upto curveMonotoneSpec)

/-- 'plenumlaw03.CurveLeast', WHERE WHAT IT READS IS OF BULK AT MOST 1048576: true; the input reads as it did. -/
def curveLeastUptoRow : OpenClaim := { program := "ytacheoimnckghaa", sum := "be15617b796e6929e85960e2812da6fcc672dafe06980e2bbdc4f392bad27a5e", func := "plenum/plenumlaw03.CurveLeast", spec := "curveLeast", unfollowed := true, recurses := true, named := ["math/bits.divideError", "math/bits.overflowError"], apart := false, narrowed := true }
def CurveLeastUptoSaid : Prop := curveLeastUptoRow.holds Try.pinned (OpenSpec.upto curveLeastSpec)

/-- 'plenumlaw03.CurveSimple', WHERE WHAT IT READS IS OF BULK AT MOST 1048576: true; the input reads as it did. -/
def curveSimpleUptoRow : OpenClaim := { program := "ytacheoimnckghaa", sum := "be15617b796e6929e85960e2812da6fcc672dafe06980e2bbdc4f392bad27a5e", func := "plenum/plenumlaw03.CurveSimple", spec := "curveSimple", unfollowed := true, recurses := true, named := ["math/bits.divideError", "math/bits.overflowError"], apart := false, narrowed := true }
def CurveSimpleUptoSaid : Prop := curveSimpleUptoRow.holds Try.pinned (OpenSpec.upto curveSimpleSpec)

end Rows
end Go.Proofs.Ytacheoimnckghaa
