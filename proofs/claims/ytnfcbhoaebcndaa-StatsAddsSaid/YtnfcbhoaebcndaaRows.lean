/-
  No cell of these rows narrows 'for every input' (looked for: loops, veiled, ifaces, maps, wideKeys, modest, calm, conditions, laid).
  DERIVED. THE GIVEN ROWS OF THIS SEAT. 8 by the template 'for every input the law returns true; each argument reads behind the call as it read before'; 0 by the template 'total and deterministic' (their statements: YtnfcbhoaebcndaaTotals.lean).
  GIVEN WITH THE SEED: the statements are not yours to turn. If you find one false, say at which input.
  Laid BY PROGRAM, IN A SANDBOX (cutbox-rows.mjs): the forced cells as the released guide's own fill.sh prints them over the translation 235da436e8e5bb49… (all of the seat's roots in one cut). By AI agents, Wed Nov 11 2026. No macro, syntax, notation, axiom, sorry.
-/
import Derived.Test.YtnfcbhoaebcndaaChecked
import GoSem.Claim
import GoSem.ClaimJoined
import GoSem.ClaimMapViews
import Derived.JoinedTies
import Derived.KernelRfl
namespace Go.Proofs.Ytnfcbhoaebcndaa
/- THE CELL 'sum', in the pinned program and in every row, IS THE sha256 OF THE DUMP (.gsa) THAT YtnfcbhoaebcndaaProg.lean LOADS. Nothing in Lean hashes anything: it is a label: what it is worth is what the hold of that sum in a sandbox is worth. -/
noncomputable def Try.pinned : Pinned := { name := "ytnfcbhoaebcndaa", sum := "235da436e8e5bb492bcd2c381fd48887dffb7aadf64e90db4bb8b0c5166e96b9", checked := Try.checked }
namespace Rows
def none {H : Type} : Left H := { results := [], args := [] }

/-- 'plenumlaw44.StatsHistograms': WHATEVER THE INPUT: true; the input reads as it did. -/
def statsHistogramsSpec : ChangeSpec := { name := "statsHistograms", fn := fun _ => fun
  | [d1, d2, d3, d4, d5] => { results := [.lit (.bool true)], args := [d1, d2, d3, d4, d5] }
  | _ => none }
def statsHistogramsRow : OpenClaim := { program := "ytnfcbhoaebcndaa", sum := "235da436e8e5bb492bcd2c381fd48887dffb7aadf64e90db4bb8b0c5166e96b9", func := "plenum/plenumlaw44.StatsHistograms", spec := "statsHistograms", unfollowed := true, recurses := true, apart := false }
def StatsHistogramsSaid : Prop := statsHistogramsRow.holds Try.pinned (OpenSpec.ofChange statsHistogramsSpec)

/-- ITS FALSE NEIGHBOUR: 'it returns false'. Refute it at one input. -/
def statsHistogramsWrong : ChangeSpec := { name := "statsHistograms", fn := fun _ => fun
  | [d1, d2, d3, d4, d5] => { results := [.lit (.bool false)], args := [d1, d2, d3, d4, d5] }
  | _ => none }
def StatsHistogramsWrongFalsely : Prop := statsHistogramsRow.holds Try.pinned (OpenSpec.ofChange statsHistogramsWrong)

/-- 'plenumlaw44.StatsBounds': WHATEVER THE INPUT: true; the input reads as it did. -/
def statsBoundsSpec : ChangeSpec := { name := "statsBounds", fn := fun _ => fun
  | [d1, d2, d3] => { results := [.lit (.bool true)], args := [d1, d2, d3] }
  | _ => none }
def statsBoundsRow : OpenClaim := { program := "ytnfcbhoaebcndaa", sum := "235da436e8e5bb492bcd2c381fd48887dffb7aadf64e90db4bb8b0c5166e96b9", func := "plenum/plenumlaw44.StatsBounds", spec := "statsBounds", unfollowed := true, recurses := true, apart := false }
def StatsBoundsSaid : Prop := statsBoundsRow.holds Try.pinned (OpenSpec.ofChange statsBoundsSpec)

/-- ITS FALSE NEIGHBOUR: 'it returns false'. Refute it at one input. -/
def statsBoundsWrong : ChangeSpec := { name := "statsBounds", fn := fun _ => fun
  | [d1, d2, d3] => { results := [.lit (.bool false)], args := [d1, d2, d3] }
  | _ => none }
def StatsBoundsWrongFalsely : Prop := statsBoundsRow.holds Try.pinned (OpenSpec.ofChange statsBoundsWrong)

/-- 'plenumlaw44.StatsCounts': WHATEVER THE INPUT: true; the input reads as it did. -/
def statsCountsSpec : ChangeSpec := { name := "statsCounts", fn := fun _ => fun
  | [d1, d2, d3, d4] => { results := [.lit (.bool true)], args := [d1, d2, d3, d4] }
  | _ => none }
def statsCountsRow : OpenClaim := { program := "ytnfcbhoaebcndaa", sum := "235da436e8e5bb492bcd2c381fd48887dffb7aadf64e90db4bb8b0c5166e96b9", func := "plenum/plenumlaw44.StatsCounts", spec := "statsCounts", unfollowed := true, recurses := true, apart := false }
def StatsCountsSaid : Prop := statsCountsRow.holds Try.pinned (OpenSpec.ofChange statsCountsSpec)

/-- ITS FALSE NEIGHBOUR: 'it returns false'. Refute it at one input. -/
def statsCountsWrong : ChangeSpec := { name := "statsCounts", fn := fun _ => fun
  | [d1, d2, d3, d4] => { results := [.lit (.bool false)], args := [d1, d2, d3, d4] }
  | _ => none }
def StatsCountsWrongFalsely : Prop := statsCountsRow.holds Try.pinned (OpenSpec.ofChange statsCountsWrong)

/-- 'plenumlaw44.StatsAdds': WHATEVER THE INPUT: true; the input reads as it did. -/
def statsAddsSpec : ChangeSpec := { name := "statsAdds", fn := fun _ => fun
  | [d1, d2, d3, d4, d5, d6] => { results := [.lit (.bool true)], args := [d1, d2, d3, d4, d5, d6] }
  | _ => none }
def statsAddsRow : OpenClaim := { program := "ytnfcbhoaebcndaa", sum := "235da436e8e5bb492bcd2c381fd48887dffb7aadf64e90db4bb8b0c5166e96b9", func := "plenum/plenumlaw44.StatsAdds", spec := "statsAdds", unfollowed := true, recurses := true, apart := false }
def StatsAddsSaid : Prop := statsAddsRow.holds Try.pinned (OpenSpec.ofChange statsAddsSpec)

/-- ITS FALSE NEIGHBOUR: 'it returns false'. Refute it at one input. -/
def statsAddsWrong : ChangeSpec := { name := "statsAdds", fn := fun _ => fun
  | [d1, d2, d3, d4, d5, d6] => { results := [.lit (.bool false)], args := [d1, d2, d3, d4, d5, d6] }
  | _ => none }
def StatsAddsWrongFalsely : Prop := statsAddsRow.holds Try.pinned (OpenSpec.ofChange statsAddsWrong)

/-- 'plenumlaw44.StatsValues': WHATEVER THE INPUT: true; the input reads as it did. -/
def statsValuesSpec : ChangeSpec := { name := "statsValues", fn := fun _ => fun
  | [d1, d2] => { results := [.lit (.bool true)], args := [d1, d2] }
  | _ => none }
def statsValuesRow : OpenClaim := { program := "ytnfcbhoaebcndaa", sum := "235da436e8e5bb492bcd2c381fd48887dffb7aadf64e90db4bb8b0c5166e96b9", func := "plenum/plenumlaw44.StatsValues", spec := "statsValues", unfollowed := true, recurses := true, apart := false }
def StatsValuesSaid : Prop := statsValuesRow.holds Try.pinned (OpenSpec.ofChange statsValuesSpec)

/-- ITS FALSE NEIGHBOUR: 'it returns false'. Refute it at one input. -/
def statsValuesWrong : ChangeSpec := { name := "statsValues", fn := fun _ => fun
  | [d1, d2] => { results := [.lit (.bool false)], args := [d1, d2] }
  | _ => none }
def StatsValuesWrongFalsely : Prop := statsValuesRow.holds Try.pinned (OpenSpec.ofChange statsValuesWrong)

/-- 'plenumlaw44.StatsRepeats': WHATEVER THE INPUT: true; the input reads as it did. -/
def statsRepeatsSpec : ChangeSpec := { name := "statsRepeats", fn := fun _ => fun
  | [d1, d2, d3, d4, d5] => { results := [.lit (.bool true)], args := [d1, d2, d3, d4, d5] }
  | _ => none }
def statsRepeatsRow : OpenClaim := { program := "ytnfcbhoaebcndaa", sum := "235da436e8e5bb492bcd2c381fd48887dffb7aadf64e90db4bb8b0c5166e96b9", func := "plenum/plenumlaw44.StatsRepeats", spec := "statsRepeats", unfollowed := true, recurses := true, apart := false }
def StatsRepeatsSaid : Prop := statsRepeatsRow.holds Try.pinned (OpenSpec.ofChange statsRepeatsSpec)

/-- ITS FALSE NEIGHBOUR: 'it returns false'. Refute it at one input. -/
def statsRepeatsWrong : ChangeSpec := { name := "statsRepeats", fn := fun _ => fun
  | [d1, d2, d3, d4, d5] => { results := [.lit (.bool false)], args := [d1, d2, d3, d4, d5] }
  | _ => none }
def StatsRepeatsWrongFalsely : Prop := statsRepeatsRow.holds Try.pinned (OpenSpec.ofChange statsRepeatsWrong)

/-- 'plenumlaw44.StatsMeans': WHATEVER THE INPUT: true; the input reads as it did. -/
def statsMeansSpec : ChangeSpec := { name := "statsMeans", fn := fun _ => fun
  | [d1, d2, d3] => { results := [.lit (.bool true)], args := [d1, d2, d3] }
  | _ => none }
def statsMeansRow : OpenClaim := { program := "ytnfcbhoaebcndaa", sum := "235da436e8e5bb492bcd2c381fd48887dffb7aadf64e90db4bb8b0c5166e96b9", func := "plenum/plenumlaw44.StatsMeans", spec := "statsMeans", unfollowed := true, recurses := true, named := ["math/bits.divideError", "math/bits.overflowError"], apart := false }
def StatsMeansSaid : Prop := statsMeansRow.holds Try.pinned (OpenSpec.ofChange statsMeansSpec)

/-- ITS FALSE NEIGHBOUR: 'it returns false'. Refute it at one input. -/
def statsMeansWrong : ChangeSpec := { name := "statsMeans", fn := fun _ => fun
  | [d1, d2, d3] => { results := [.lit (.bool false)], args := [d1, d2, d3] }
  | _ => none }
def StatsMeansWrongFalsely : Prop := statsMeansRow.holds Try.pinned (OpenSpec.ofChange statsMeansWrong)

/-- 'plenumlaw44.StatsDegrees': WHATEVER THE INPUT: true; the input reads as it did. -/
def statsDegreesSpec : ChangeSpec := { name := "statsDegrees", fn := fun _ => fun
  | [d1, d2, d3, d4, d5] => { results := [.lit (.bool true)], args := [d1, d2, d3, d4, d5] }
  | _ => none }
def statsDegreesRow : OpenClaim := { program := "ytnfcbhoaebcndaa", sum := "235da436e8e5bb492bcd2c381fd48887dffb7aadf64e90db4bb8b0c5166e96b9", func := "plenum/plenumlaw44.StatsDegrees", spec := "statsDegrees", unfollowed := true, recurses := true, named := ["math/bits.divideError", "math/bits.overflowError"], apart := false }
def StatsDegreesSaid : Prop := statsDegreesRow.holds Try.pinned (OpenSpec.ofChange statsDegreesSpec)

/-- ITS FALSE NEIGHBOUR: 'it returns false'. Refute it at one input. -/
def statsDegreesWrong : ChangeSpec := { name := "statsDegrees", fn := fun _ => fun
  | [d1, d2, d3, d4, d5] => { results := [.lit (.bool false)], args := [d1, d2, d3, d4, d5] }
  | _ => none }
def StatsDegreesWrongFalsely : Prop := statsDegreesRow.holds Try.pinned (OpenSpec.ofChange statsDegreesWrong)

/- THE SECOND FORM. 'bulk': how many values and letters a reading holds, each counted each time it is reached (what is shared counts as often as it is met; a slice's spare places count too). A statement '..UptoSaid' is the law's where the arguments, and the package variables that the reading takes, are together of bulk at most 1048576: NARROWER than '..Said'. Prove '..Said' where nothing that the law and all that it calls make is longer than what came in: it says more and counts as full. Else prove '..UptoSaid'. A law counts once. -/
mutual
def uptoBulk {H : Type} : DataW H → Nat
  | .lit (.string bytes) => bytes.length + 1
  | .lit _ => 1
  | .nil => 1
  | .ptr d => uptoBulk d + 1
  | .slice elems spare => uptoBulkAll elems + uptoBulkAll spare + 1
  | .agg parts => uptoBulkAll parts + 1
  | .iface _ d => uptoBulk d + 1
  | .map entries => uptoBulkEntries entries + 1
  | .held _ => 1
def uptoBulkAll {H : Type} : List (DataW H) → Nat
  | [] => 0
  | d :: r => uptoBulk d + uptoBulkAll r
def uptoBulkEntries {H : Type} : List (Lit × DataW H) → Nat
  | [] => 0
  | x :: r => uptoBulkEntry x + uptoBulkEntries r
def uptoBulkEntry {H : Type} : Lit × DataW H → Nat
  | (.string bytes, d) => bytes.length + uptoBulk d + 1
  | (_, d) => uptoBulk d + 1
 end
def uptoSmall : (H : Type) → List (DataW H) → Bool := fun _ ds => decide (uptoBulkAll ds ≤ 1048576)
def OpenSpec.upto (s : _root_.Go.ChangeSpec) : _root_.Go.OpenSpec := { _root_.Go.OpenSpec.ofChange s with cond := some uptoSmall }

/-- 'plenumlaw44.StatsHistograms', WHERE WHAT IT READS IS OF BULK AT MOST 1048576: true; the input reads as it did. -/
def statsHistogramsUptoRow : OpenClaim := { program := "ytnfcbhoaebcndaa", sum := "235da436e8e5bb492bcd2c381fd48887dffb7aadf64e90db4bb8b0c5166e96b9", func := "plenum/plenumlaw44.StatsHistograms", spec := "statsHistograms", unfollowed := true, recurses := true, apart := false, narrowed := true }
def StatsHistogramsUptoSaid : Prop := statsHistogramsUptoRow.holds Try.pinned (OpenSpec.upto statsHistogramsSpec)

/-- 'plenumlaw44.StatsBounds', WHERE WHAT IT READS IS OF BULK AT MOST 1048576: true; the input reads as it did. -/
def statsBoundsUptoRow : OpenClaim := { program := "ytnfcbhoaebcndaa", sum := "235da436e8e5bb492bcd2c381fd48887dffb7aadf64e90db4bb8b0c5166e96b9", func := "plenum/plenumlaw44.StatsBounds", spec := "statsBounds", unfollowed := true, recurses := true, apart := false, narrowed := true }
def StatsBoundsUptoSaid : Prop := statsBoundsUptoRow.holds Try.pinned (OpenSpec.upto statsBoundsSpec)

/-- 'plenumlaw44.StatsCounts', WHERE WHAT IT READS IS OF BULK AT MOST 1048576: true; the input reads as it did. -/
def statsCountsUptoRow : OpenClaim := { program := "ytnfcbhoaebcndaa", sum := "235da436e8e5bb492bcd2c381fd48887dffb7aadf64e90db4bb8b0c5166e96b9", func := "plenum/plenumlaw44.StatsCounts", spec := "statsCounts", unfollowed := true, recurses := true, apart := false, narrowed := true }
def StatsCountsUptoSaid : Prop := statsCountsUptoRow.holds Try.pinned (OpenSpec.upto statsCountsSpec)

/-- 'plenumlaw44.StatsAdds', WHERE WHAT IT READS IS OF BULK AT MOST 1048576: true; the input reads as it did. -/
def statsAddsUptoRow : OpenClaim := { program := "ytnfcbhoaebcndaa", sum := "235da436e8e5bb492bcd2c381fd48887dffb7aadf64e90db4bb8b0c5166e96b9", func := "plenum/plenumlaw44.StatsAdds", spec := "statsAdds", unfollowed := true, recurses := true, apart := false, narrowed := true }
def StatsAddsUptoSaid : Prop := statsAddsUptoRow.holds Try.pinned (OpenSpec.upto statsAddsSpec)

/-- 'plenumlaw44.StatsValues', WHERE WHAT IT READS IS OF BULK AT MOST 1048576: true; the input reads as it did. -/
def statsValuesUptoRow : OpenClaim := { program := "ytnfcbhoaebcndaa", sum := "235da436e8e5bb492bcd2c381fd48887dffb7aadf64e90db4bb8b0c5166e96b9", func := "plenum/plenumlaw44.StatsValues", spec := "statsValues", unfollowed := true, recurses := true, apart := false, narrowed := true }
def StatsValuesUptoSaid : Prop := statsValuesUptoRow.holds Try.pinned (OpenSpec.upto statsValuesSpec)

/-- 'plenumlaw44.StatsRepeats', WHERE WHAT IT READS IS OF BULK AT MOST 1048576: true; the input reads as it did. -/
def statsRepeatsUptoRow : OpenClaim := { program := "ytnfcbhoaebcndaa", sum := "235da436e8e5bb492bcd2c381fd48887dffb7aadf64e90db4bb8b0c5166e96b9", func := "plenum/plenumlaw44.StatsRepeats", spec := "statsRepeats", unfollowed := true, recurses := true, apart := false, narrowed := true }
def StatsRepeatsUptoSaid : Prop := statsRepeatsUptoRow.holds Try.pinned (OpenSpec.upto statsRepeatsSpec)

/-- 'plenumlaw44.StatsMeans', WHERE WHAT IT READS IS OF BULK AT MOST 1048576: true; the input reads as it did. -/
def statsMeansUptoRow : OpenClaim := { program := "ytnfcbhoaebcndaa", sum := "235da436e8e5bb492bcd2c381fd48887dffb7aadf64e90db4bb8b0c5166e96b9", func := "plenum/plenumlaw44.StatsMeans", spec := "statsMeans", unfollowed := true, recurses := true, named := ["math/bits.divideError", "math/bits.overflowError"], apart := false, narrowed := true }
def StatsMeansUptoSaid : Prop := statsMeansUptoRow.holds Try.pinned (OpenSpec.upto statsMeansSpec)

/-- 'plenumlaw44.StatsDegrees', WHERE WHAT IT READS IS OF BULK AT MOST 1048576: true; the input reads as it did. -/
def statsDegreesUptoRow : OpenClaim := { program := "ytnfcbhoaebcndaa", sum := "235da436e8e5bb492bcd2c381fd48887dffb7aadf64e90db4bb8b0c5166e96b9", func := "plenum/plenumlaw44.StatsDegrees", spec := "statsDegrees", unfollowed := true, recurses := true, named := ["math/bits.divideError", "math/bits.overflowError"], apart := false, narrowed := true }
def StatsDegreesUptoSaid : Prop := statsDegreesUptoRow.holds Try.pinned (OpenSpec.upto statsDegreesSpec)

end Rows
end Go.Proofs.Ytnfcbhoaebcndaa
