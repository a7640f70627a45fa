/-
  NARROWER THAN 'FOR EVERY INPUT', by the rows' own cells (each row's printed sentence says how): PsychroMixes: laid · PsychroDew: laid · PsychroAir: laid · PsychroMonotone: laid · PsychroInverse: laid · PsychroHeat: laid · PsychroEvals: laid.
  DERIVED. THE GIVEN ROWS OF THIS SEAT. 7 by the template 'for every input the law returns true; each argument reads behind the call as it read before'; 0 by the template 'total and deterministic' (their statements: YtbfcplnaafnlhaaDoorTotals.lean).
  GIVEN WITH THE SEED: the statements are not yours to turn. If you find one false, say at which input.
  Laid BY PROGRAM, IN A SANDBOX (cutbox-rows.mjs): the forced cells as the released guide's own fill.sh prints them over the translation 5d7e110dfaa567bd… (all of the seat's roots in one cut). By AI agents, Wed Nov 11 2026. No macro, syntax, notation, axiom, sorry.
-/
import Derived.Test.YtbfcplnaafnlhaaDoorChecked
import GoSem.Claim
import GoSem.ClaimJoined
import GoSem.ClaimMapViews
import Derived.JoinedTies
import Derived.KernelRfl
namespace Go.Proofs.YtbfcplnaafnlhaaDoor
/- THE CELL 'sum', in the pinned program and in every row, IS THE sha256 OF THE DUMP (.gsa) THAT YtbfcplnaafnlhaaDoorProg.lean LOADS. Nothing in Lean hashes anything: it is a label: what it is worth is what the hold of that sum in a sandbox is worth. -/
noncomputable def Tryd.pinned : Pinned := { name := "ytbfcplnaafnlhaadoor", sum := "5d7e110dfaa567bd3ecb20982d4b46daecf3c689b8ac7ecb1fa5a87d423bdeb9", checked := Tryd.checked }
namespace Rows
def none {H : Type} : Left H := { results := [], args := [] }

/- WHAT THE LISTED PACKAGE-LEVEL VARIABLES READ AS WHEN THE CALL BEGINS. Each datum BY PROGRAM (the guide's laid-datum.mjs) off the statement by which the dump's own 'gosem.cut.vars' lays the variable. In a bare row this is a premise. The card (YtbfcplnaafnlhaaDoorCards.lean) ties it to the program's text. -/
def laid_plenum_psychro_table {H : Type} : DataW H := .agg [.lit (.int .i64 637), .lit (.int .i64 1020), .lit (.int .i64 1603), .lit (.int .i64 2487), .lit (.int .i64 3789), .lit (.int .i64 5424), .lit (.int .i64 7661), .lit (.int .i64 10694), .lit (.int .i64 14757), .lit (.int .i64 20170), .lit (.int .i64 27329), .lit (.int .i64 36756), .lit (.int .i64 49141), .lit (.int .i64 65411), .lit (.int .i64 86858), .lit (.int .i64 115321), .lit (.int .i64 153540)]

/-- 'plenumlaw22.PsychroMixes': WHATEVER THE INPUT: true; the input reads as it did. -/
def psychroMixesSpec : ChangeSpec := { name := "psychroMixes", fn := fun _ => fun
  | [d1, d2] => { results := [.lit (.bool true)], args := [d1, d2] }
  | _ => none }
def psychroMixesRow : OpenClaim := { program := "ytbfcplnaafnlhaadoor", sum := "5d7e110dfaa567bd3ecb20982d4b46daecf3c689b8ac7ecb1fa5a87d423bdeb9", func := "plenum/plenumlaw22.PsychroMixes", spec := "psychroMixes", inPlace := ["math/bits.Add64", "math/bits.Sub64"], unfollowed := true, recurses := true, named := ["math/bits.divideError", "math/bits.overflowError", "plenum/psychro.table"], apart := false, laid := [("plenum/psychro.table", laid_plenum_psychro_table)] }
def PsychroMixesSaid : Prop := psychroMixesRow.holds Tryd.pinned (OpenSpec.ofChange psychroMixesSpec)

/-- ITS FALSE NEIGHBOUR: 'it returns false'. Refute it at one input. -/
def psychroMixesWrong : ChangeSpec := { name := "psychroMixes", fn := fun _ => fun
  | [d1, d2] => { results := [.lit (.bool false)], args := [d1, d2] }
  | _ => none }
def PsychroMixesWrongFalsely : Prop := psychroMixesRow.holds Tryd.pinned (OpenSpec.ofChange psychroMixesWrong)

/-- 'plenumlaw22.PsychroDew': WHATEVER THE INPUT: true; the input reads as it did. -/
def psychroDewSpec : ChangeSpec := { name := "psychroDew", fn := fun _ => fun
  | [d1, d2, d3] => { results := [.lit (.bool true)], args := [d1, d2, d3] }
  | _ => none }
def psychroDewRow : OpenClaim := { program := "ytbfcplnaafnlhaadoor", sum := "5d7e110dfaa567bd3ecb20982d4b46daecf3c689b8ac7ecb1fa5a87d423bdeb9", func := "plenum/plenumlaw22.PsychroDew", spec := "psychroDew", inPlace := ["math/bits.Add64", "math/bits.Sub64"], unfollowed := true, recurses := true, named := ["math/bits.divideError", "math/bits.overflowError", "plenum/psychro.table"], apart := false, laid := [("plenum/psychro.table", laid_plenum_psychro_table)] }
def PsychroDewSaid : Prop := psychroDewRow.holds Tryd.pinned (OpenSpec.ofChange psychroDewSpec)

/-- ITS FALSE NEIGHBOUR: 'it returns false'. Refute it at one input. -/
def psychroDewWrong : ChangeSpec := { name := "psychroDew", fn := fun _ => fun
  | [d1, d2, d3] => { results := [.lit (.bool false)], args := [d1, d2, d3] }
  | _ => none }
def PsychroDewWrongFalsely : Prop := psychroDewRow.holds Tryd.pinned (OpenSpec.ofChange psychroDewWrong)

/-- 'plenumlaw22.PsychroAir': WHATEVER THE INPUT: true; the input reads as it did. -/
def psychroAirSpec : ChangeSpec := { name := "psychroAir", fn := fun _ => fun
  | [d1, d2, d3] => { results := [.lit (.bool true)], args := [d1, d2, d3] }
  | _ => none }
def psychroAirRow : OpenClaim := { program := "ytbfcplnaafnlhaadoor", sum := "5d7e110dfaa567bd3ecb20982d4b46daecf3c689b8ac7ecb1fa5a87d423bdeb9", func := "plenum/plenumlaw22.PsychroAir", spec := "psychroAir", inPlace := ["math/bits.Add64", "math/bits.Sub64"], unfollowed := true, recurses := true, named := ["math/bits.divideError", "math/bits.overflowError", "plenum/psychro.table"], apart := false, laid := [("plenum/psychro.table", laid_plenum_psychro_table)] }
def PsychroAirSaid : Prop := psychroAirRow.holds Tryd.pinned (OpenSpec.ofChange psychroAirSpec)

/-- ITS FALSE NEIGHBOUR: 'it returns false'. Refute it at one input. -/
def psychroAirWrong : ChangeSpec := { name := "psychroAir", fn := fun _ => fun
  | [d1, d2, d3] => { results := [.lit (.bool false)], args := [d1, d2, d3] }
  | _ => none }
def PsychroAirWrongFalsely : Prop := psychroAirRow.holds Tryd.pinned (OpenSpec.ofChange psychroAirWrong)

/-- 'plenumlaw22.PsychroMonotone': WHATEVER THE INPUT: true; the input reads as it did. -/
def psychroMonotoneSpec : ChangeSpec := { name := "psychroMonotone", fn := fun _ => fun
  | [d1, d2, d3, d4] => { results := [.lit (.bool true)], args := [d1, d2, d3, d4] }
  | _ => none }
def psychroMonotoneRow : OpenClaim := { program := "ytbfcplnaafnlhaadoor", sum := "5d7e110dfaa567bd3ecb20982d4b46daecf3c689b8ac7ecb1fa5a87d423bdeb9", func := "plenum/plenumlaw22.PsychroMonotone", spec := "psychroMonotone", inPlace := ["math/bits.Add64", "math/bits.Sub64"], unfollowed := true, recurses := true, named := ["math/bits.divideError", "math/bits.overflowError", "plenum/psychro.table"], apart := false, laid := [("plenum/psychro.table", laid_plenum_psychro_table)] }
def PsychroMonotoneSaid : Prop := psychroMonotoneRow.holds Tryd.pinned (OpenSpec.ofChange psychroMonotoneSpec)

/-- ITS FALSE NEIGHBOUR: 'it returns false'. Refute it at one input. -/
def psychroMonotoneWrong : ChangeSpec := { name := "psychroMonotone", fn := fun _ => fun
  | [d1, d2, d3, d4] => { results := [.lit (.bool false)], args := [d1, d2, d3, d4] }
  | _ => none }
def PsychroMonotoneWrongFalsely : Prop := psychroMonotoneRow.holds Tryd.pinned (OpenSpec.ofChange psychroMonotoneWrong)

/-- 'plenumlaw22.PsychroInverse': WHATEVER THE INPUT: true; the input reads as it did. -/
def psychroInverseSpec : ChangeSpec := { name := "psychroInverse", fn := fun _ => fun
  | [d1, d2] => { results := [.lit (.bool true)], args := [d1, d2] }
  | _ => none }
def psychroInverseRow : OpenClaim := { program := "ytbfcplnaafnlhaadoor", sum := "5d7e110dfaa567bd3ecb20982d4b46daecf3c689b8ac7ecb1fa5a87d423bdeb9", func := "plenum/plenumlaw22.PsychroInverse", spec := "psychroInverse", inPlace := ["math/bits.Add64", "math/bits.Sub64"], unfollowed := true, recurses := true, named := ["math/bits.divideError", "math/bits.overflowError", "plenum/psychro.table"], apart := false, laid := [("plenum/psychro.table", laid_plenum_psychro_table)] }
def PsychroInverseSaid : Prop := psychroInverseRow.holds Tryd.pinned (OpenSpec.ofChange psychroInverseSpec)

/-- ITS FALSE NEIGHBOUR: 'it returns false'. Refute it at one input. -/
def psychroInverseWrong : ChangeSpec := { name := "psychroInverse", fn := fun _ => fun
  | [d1, d2] => { results := [.lit (.bool false)], args := [d1, d2] }
  | _ => none }
def PsychroInverseWrongFalsely : Prop := psychroInverseRow.holds Tryd.pinned (OpenSpec.ofChange psychroInverseWrong)

/-- 'plenumlaw22.PsychroHeat': WHATEVER THE INPUT: true; the input reads as it did. -/
def psychroHeatSpec : ChangeSpec := { name := "psychroHeat", fn := fun _ => fun
  | [d1, d2, d3, d4, d5] => { results := [.lit (.bool true)], args := [d1, d2, d3, d4, d5] }
  | _ => none }
def psychroHeatRow : OpenClaim := { program := "ytbfcplnaafnlhaadoor", sum := "5d7e110dfaa567bd3ecb20982d4b46daecf3c689b8ac7ecb1fa5a87d423bdeb9", func := "plenum/plenumlaw22.PsychroHeat", spec := "psychroHeat", inPlace := ["math/bits.Add64", "math/bits.Sub64"], unfollowed := true, recurses := true, named := ["math/bits.divideError", "math/bits.overflowError", "plenum/psychro.table"], apart := false, laid := [("plenum/psychro.table", laid_plenum_psychro_table)] }
def PsychroHeatSaid : Prop := psychroHeatRow.holds Tryd.pinned (OpenSpec.ofChange psychroHeatSpec)

/-- ITS FALSE NEIGHBOUR: 'it returns false'. Refute it at one input. -/
def psychroHeatWrong : ChangeSpec := { name := "psychroHeat", fn := fun _ => fun
  | [d1, d2, d3, d4, d5] => { results := [.lit (.bool false)], args := [d1, d2, d3, d4, d5] }
  | _ => none }
def PsychroHeatWrongFalsely : Prop := psychroHeatRow.holds Tryd.pinned (OpenSpec.ofChange psychroHeatWrong)

/-- 'plenumlaw22.PsychroEvals': WHATEVER THE INPUT: true; the input reads as it did. -/
def psychroEvalsSpec : ChangeSpec := { name := "psychroEvals", fn := fun _ => fun
  | [d1, d2, d3] => { results := [.lit (.bool true)], args := [d1, d2, d3] }
  | _ => none }
def psychroEvalsRow : OpenClaim := { program := "ytbfcplnaafnlhaadoor", sum := "5d7e110dfaa567bd3ecb20982d4b46daecf3c689b8ac7ecb1fa5a87d423bdeb9", func := "plenum/plenumlaw22.PsychroEvals", spec := "psychroEvals", inPlace := ["math/bits.Add64", "math/bits.Sub64"], unfollowed := true, recurses := true, named := ["math/bits.divideError", "math/bits.overflowError", "plenum/psychro.table"], apart := false, laid := [("plenum/psychro.table", laid_plenum_psychro_table)] }
def PsychroEvalsSaid : Prop := psychroEvalsRow.holds Tryd.pinned (OpenSpec.ofChange psychroEvalsSpec)

/-- ITS FALSE NEIGHBOUR: 'it returns false'. Refute it at one input. -/
def psychroEvalsWrong : ChangeSpec := { name := "psychroEvals", fn := fun _ => fun
  | [d1, d2, d3] => { results := [.lit (.bool false)], args := [d1, d2, d3] }
  | _ => none }
def PsychroEvalsWrongFalsely : Prop := psychroEvalsRow.holds Tryd.pinned (OpenSpec.ofChange psychroEvalsWrong)

/- THE SECOND FORM. 'bulk': how many values and letters a reading holds, each counted each time it is reached (what is shared counts as often as it is met; a slice's spare places count too). A statement '..UptoSaid' is the law's where the arguments, and the package variables that the reading takes, are together of bulk at most 1048576: NARROWER than '..Said'. Prove '..Said' where nothing that the law and all that it calls make is longer than what came in: it says more and counts as full. Else prove '..UptoSaid'. A law counts once. -/
mutual
def uptoBulk {H : Type} : DataW H → Nat
  | .lit (.string bytes) => bytes.length + 1
  | .lit _ => 1
  | .nil => 1
  | .ptr d => uptoBulk d + 1
  | .slice elems spare => uptoBulkAll elems + uptoBulkAll spare + 1
  | .agg parts => uptoBulkAll parts + 1
  | .iface _ d => uptoBulk d + 1
  | .map entries => uptoBulkEntries entries + 1
  | .held _ => 1
def uptoBulkAll {H : Type} : List (DataW H) → Nat
  | [] => 0
  | d :: r => uptoBulk d + uptoBulkAll r
def uptoBulkEntries {H : Type} : List (Lit × DataW H) → Nat
  | [] => 0
  | x :: r => uptoBulkEntry x + uptoBulkEntries r
def uptoBulkEntry {H : Type} : Lit × DataW H → Nat
  | (.string bytes, d) => bytes.length + uptoBulk d + 1
  | (_, d) => uptoBulk d + 1
 end
def uptoSmall : (H : Type) → List (DataW H) → Bool := fun _ ds => decide (uptoBulkAll ds ≤ 1048576)
def OpenSpec.upto (s : _root_.Go.ChangeSpec) : _root_.Go.OpenSpec := { _root_.Go.OpenSpec.ofChange s with cond := some uptoSmall }

/-- 'plenumlaw22.PsychroMixes', WHERE WHAT IT READS IS OF BULK AT MOST 1048576: true; the input reads as it did. -/
def psychroMixesUptoRow : OpenClaim := { program := "ytbfcplnaafnlhaadoor", sum := "5d7e110dfaa567bd3ecb20982d4b46daecf3c689b8ac7ecb1fa5a87d423bdeb9", func := "plenum/plenumlaw22.PsychroMixes", spec := "psychroMixes", inPlace := ["math/bits.Add64", "math/bits.Sub64"], unfollowed := true, recurses := true, named := ["math/bits.divideError", "math/bits.overflowError", "plenum/psychro.table"], apart := false, laid := [("plenum/psychro.table", laid_plenum_psychro_table)], narrowed := true }
def PsychroMixesUptoSaid : Prop := psychroMixesUptoRow.holds Tryd.pinned (OpenSpec.upto psychroMixesSpec)

/-- 'plenumlaw22.PsychroDew', WHERE WHAT IT READS IS OF BULK AT MOST 1048576: true; the input reads as it did. -/
def psychroDewUptoRow : OpenClaim := { program := "ytbfcplnaafnlhaadoor", sum := "5d7e110dfaa567bd3ecb20982d4b46daecf3c689b8ac7ecb1fa5a87d423bdeb9", func := "plenum/plenumlaw22.PsychroDew", spec := "psychroDew", inPlace := ["math/bits.Add64", "math/bits.Sub64"], unfollowed := true, recurses := true, named := ["math/bits.divideError", "math/bits.overflowError", "plenum/psychro.table"], apart := false, laid := [("plenum/psychro.table", laid_plenum_psychro_table)], narrowed := true }
def PsychroDewUptoSaid : Prop := psychroDewUptoRow.holds Tryd.pinned (OpenSpec.upto psychroDewSpec)

/-- 'plenumlaw22.PsychroAir', WHERE WHAT IT READS IS OF BULK AT MOST 1048576: true; the input reads as it did. -/
def psychroAirUptoRow : OpenClaim := { program := "ytbfcplnaafnlhaadoor", sum := "5d7e110dfaa567bd3ecb20982d4b46daecf3c689b8ac7ecb1fa5a87d423bdeb9", func := "plenum/plenumlaw22.PsychroAir", spec := "psychroAir", inPlace := ["math/bits.Add64", "math/bits.Sub64"], unfollowed := true, recurses := true, named := ["math/bits.divideError", "math/bits.overflowError", "plenum/psychro.table"], apart := false, laid := [("plenum/psychro.table", laid_plenum_psychro_table)], narrowed := true }
def PsychroAirUptoSaid : Prop := psychroAirUptoRow.holds Tryd.pinned (OpenSpec.upto psychroAirSpec)

/-- 'plenumlaw22.PsychroMonotone', WHERE WHAT IT READS IS OF BULK AT MOST 1048576: true; the input reads as it did. -/
def psychroMonotoneUptoRow : OpenClaim := { program := "ytbfcplnaafnlhaadoor", sum := "5d7e110dfaa567bd3ecb20982d4b46daecf3c689b8ac7ecb1fa5a87d423bdeb9", func := "plenum/plenumlaw22.PsychroMonotone", spec := "psychroMonotone", inPlace := ["math/bits.Add64", "math/bits.Sub64"], unfollowed := true, recurses := true, named := ["math/bits.divideError", "math/bits.overflowError", "plenum/psychro.table"], apart := false, laid := [("plenum/psychro.table", laid_plenum_psychro_table)], narrowed := true }
def PsychroMonotoneUptoSaid : Prop := psychroMonotoneUptoRow.holds Tryd.pinned (OpenSpec.upto psychroMonotoneSpec)

/-- 'plenumlaw22.PsychroInverse', WHERE WHAT IT READS IS OF BULK AT MOST 1048576: true; the input reads as it did. -/
def psychroInverseUptoRow : OpenClaim := { program := "ytbfcplnaafnlhaadoor", sum := "5d7e110dfaa567bd3ecb20982d4b46daecf3c689b8ac7ecb1fa5a87d423bdeb9", func := "plenum/plenumlaw22.PsychroInverse", spec := "psychroInverse", inPlace := ["math/bits.Add64", "math/bits.Sub64"], unfollowed := true, recurses := true, named := ["math/bits.divideError", "math/bits.overflowError", "plenum/psychro.table"], apart := false, laid := [("plenum/psychro.table", laid_plenum_psychro_table)], narrowed := true }
def PsychroInverseUptoSaid : Prop := psychroInverseUptoRow.holds Tryd.pinned (OpenSpec.upto psychroInverseSpec)

/-- 'plenumlaw22.PsychroHeat', WHERE WHAT IT READS IS OF BULK AT MOST 1048576: true; the input reads as it did. -/
def psychroHeatUptoRow : OpenClaim := { program := "ytbfcplnaafnlhaadoor", sum := "5d7e110dfaa567bd3ecb20982d4b46daecf3c689b8ac7ecb1fa5a87d423bdeb9", func := "plenum/plenumlaw22.PsychroHeat", spec := "psychroHeat", inPlace := ["math/bits.Add64", "math/bits.Sub64"], unfollowed := true, recurses := true, named := ["math/bits.divideError", "math/bits.overflowError", "plenum/psychro.table"], apart := false, laid := [("plenum/psychro.table", laid_plenum_psychro_table)], narrowed := true }
def PsychroHeatUptoSaid : Prop := psychroHeatUptoRow.holds Tryd.pinned (OpenSpec.upto psychroHeatSpec)

/-- 'plenumlaw22.PsychroEvals', WHERE WHAT IT READS IS OF BULK AT MOST 1048576: true; the input reads as it did. -/
def psychroEvalsUptoRow : OpenClaim := { program := "ytbfcplnaafnlhaadoor", sum := "5d7e110dfaa567bd3ecb20982d4b46daecf3c689b8ac7ecb1fa5a87d423bdeb9", func := "plenum/plenumlaw22.PsychroEvals", spec := "psychroEvals", inPlace := ["math/bits.Add64", "math/bits.Sub64"], unfollowed := true, recurses := true, named := ["math/bits.divideError", "math/bits.overflowError", "plenum/psychro.table"], apart := false, laid := [("plenum/psychro.table", laid_plenum_psychro_table)], narrowed := true }
def PsychroEvalsUptoSaid : Prop := psychroEvalsUptoRow.holds Tryd.pinned (OpenSpec.upto psychroEvalsSpec)

end Rows
end Go.Proofs.YtbfcplnaafnlhaaDoor
