/-
  No cell of these rows narrows 'for every input' (looked for: loops, veiled, ifaces, maps, wideKeys, modest, calm, conditions, laid).
  DERIVED. THE GIVEN ROWS OF THIS SEAT. 8 by the template 'for every input the law returns true; each argument reads behind the call as it read before'; 0 by the template 'total and deterministic' (their statements: YthlokfpboinmpaaTotals.lean).
  GIVEN WITH THE SEED: the statements are not yours to turn. If you find one false, say at which input.
  Laid BY PROGRAM, IN A SANDBOX (cutbox-rows.mjs): the forced cells as the released guide's own fill.sh prints them over the translation 47bcebf3bf9d498b… (all of the seat's roots in one cut). By AI agents, Wed Nov 11 2026. No macro, syntax, notation, axiom, sorry.
-/
import Derived.Test.YthlokfpboinmpaaChecked
import GoSem.Claim
import GoSem.ClaimJoined
import GoSem.ClaimMapViews
import Derived.JoinedTies
import Derived.KernelRfl
namespace Go.Proofs.Ythlokfpboinmpaa
/- THE CELL 'sum', in the pinned program and in every row, IS THE sha256 OF THE DUMP (.gsa) THAT YthlokfpboinmpaaProg.lean LOADS. Nothing in Lean hashes anything: it is a label: what it is worth is what the hold of that sum in a sandbox is worth. -/
noncomputable def Try.pinned : Pinned := { name := "ythlokfpboinmpaa", sum := "47bcebf3bf9d498b259470c8d81c599ceabb6574dc4f5feb7f3c77ec3bc7633c", checked := Try.checked }
namespace Rows
def none {H : Type} : Left H := { results := [], args := [] }

/-- 'plenumlaw35.ThermalSteps': WHATEVER THE INPUT: true; the input reads as it did. -/
def thermalStepsSpec : ChangeSpec := { name := "thermalSteps", fn := fun _ => fun
  | [d1, d2, d3, d4, d5] => { results := [.lit (.bool true)], args := [d1, d2, d3, d4, d5] }
  | _ => none }
def thermalStepsRow : OpenClaim := { program := "ythlokfpboinmpaa", sum := "47bcebf3bf9d498b259470c8d81c599ceabb6574dc4f5feb7f3c77ec3bc7633c", func := "plenum/plenumlaw35.ThermalSteps", spec := "thermalSteps", unfollowed := true, recurses := true, apart := false }
def ThermalStepsSaid : Prop := thermalStepsRow.holds Try.pinned (OpenSpec.ofChange thermalStepsSpec)

/-- ITS FALSE NEIGHBOUR: 'it returns false'. Refute it at one input. -/
def thermalStepsWrong : ChangeSpec := { name := "thermalSteps", fn := fun _ => fun
  | [d1, d2, d3, d4, d5] => { results := [.lit (.bool false)], args := [d1, d2, d3, d4, d5] }
  | _ => none }
def ThermalStepsWrongFalsely : Prop := thermalStepsRow.holds Try.pinned (OpenSpec.ofChange thermalStepsWrong)

/-- 'plenumlaw35.ThermalRuns': WHATEVER THE INPUT: true; the input reads as it did. -/
def thermalRunsSpec : ChangeSpec := { name := "thermalRuns", fn := fun _ => fun
  | [d1, d2, d3, d4, d5] => { results := [.lit (.bool true)], args := [d1, d2, d3, d4, d5] }
  | _ => none }
def thermalRunsRow : OpenClaim := { program := "ythlokfpboinmpaa", sum := "47bcebf3bf9d498b259470c8d81c599ceabb6574dc4f5feb7f3c77ec3bc7633c", func := "plenum/plenumlaw35.ThermalRuns", spec := "thermalRuns", unfollowed := true, recurses := true, apart := false }
def ThermalRunsSaid : Prop := thermalRunsRow.holds Try.pinned (OpenSpec.ofChange thermalRunsSpec)

/-- ITS FALSE NEIGHBOUR: 'it returns false'. Refute it at one input. -/
def thermalRunsWrong : ChangeSpec := { name := "thermalRuns", fn := fun _ => fun
  | [d1, d2, d3, d4, d5] => { results := [.lit (.bool false)], args := [d1, d2, d3, d4, d5] }
  | _ => none }
def ThermalRunsWrongFalsely : Prop := thermalRunsRow.holds Try.pinned (OpenSpec.ofChange thermalRunsWrong)

/-- 'plenumlaw35.ThermalReaches': WHATEVER THE INPUT: true; the input reads as it did. -/
def thermalReachesSpec : ChangeSpec := { name := "thermalReaches", fn := fun _ => fun
  | [d1, d2, d3, d4, d5, d6, d7] => { results := [.lit (.bool true)], args := [d1, d2, d3, d4, d5, d6, d7] }
  | _ => none }
def thermalReachesRow : OpenClaim := { program := "ythlokfpboinmpaa", sum := "47bcebf3bf9d498b259470c8d81c599ceabb6574dc4f5feb7f3c77ec3bc7633c", func := "plenum/plenumlaw35.ThermalReaches", spec := "thermalReaches", unfollowed := true, recurses := true, apart := false }
def ThermalReachesSaid : Prop := thermalReachesRow.holds Try.pinned (OpenSpec.ofChange thermalReachesSpec)

/-- ITS FALSE NEIGHBOUR: 'it returns false'. Refute it at one input. -/
def thermalReachesWrong : ChangeSpec := { name := "thermalReaches", fn := fun _ => fun
  | [d1, d2, d3, d4, d5, d6, d7] => { results := [.lit (.bool false)], args := [d1, d2, d3, d4, d5, d6, d7] }
  | _ => none }
def ThermalReachesWrongFalsely : Prop := thermalReachesRow.holds Try.pinned (OpenSpec.ofChange thermalReachesWrong)

/-- 'plenumlaw35.ThermalMonotone': WHATEVER THE INPUT: true; the input reads as it did. -/
def thermalMonotoneSpec : ChangeSpec := { name := "thermalMonotone", fn := fun _ => fun
  | [d1, d2, d3, d4, d5, d6, d7, d8] => { results := [.lit (.bool true)], args := [d1, d2, d3, d4, d5, d6, d7, d8] }
  | _ => none }
def thermalMonotoneRow : OpenClaim := { program := "ythlokfpboinmpaa", sum := "47bcebf3bf9d498b259470c8d81c599ceabb6574dc4f5feb7f3c77ec3bc7633c", func := "plenum/plenumlaw35.ThermalMonotone", spec := "thermalMonotone", unfollowed := true, recurses := true, apart := false }
def ThermalMonotoneSaid : Prop := thermalMonotoneRow.holds Try.pinned (OpenSpec.ofChange thermalMonotoneSpec)

/-- ITS FALSE NEIGHBOUR: 'it returns false'. Refute it at one input. -/
def thermalMonotoneWrong : ChangeSpec := { name := "thermalMonotone", fn := fun _ => fun
  | [d1, d2, d3, d4, d5, d6, d7, d8] => { results := [.lit (.bool false)], args := [d1, d2, d3, d4, d5, d6, d7, d8] }
  | _ => none }
def ThermalMonotoneWrongFalsely : Prop := thermalMonotoneRow.holds Try.pinned (OpenSpec.ofChange thermalMonotoneWrong)

/-- 'plenumlaw35.ThermalSteady': WHATEVER THE INPUT: true; the input reads as it did. -/
def thermalSteadySpec : ChangeSpec := { name := "thermalSteady", fn := fun _ => fun
  | [d1, d2, d3, d4, d5] => { results := [.lit (.bool true)], args := [d1, d2, d3, d4, d5] }
  | _ => none }
def thermalSteadyRow : OpenClaim := { program := "ythlokfpboinmpaa", sum := "47bcebf3bf9d498b259470c8d81c599ceabb6574dc4f5feb7f3c77ec3bc7633c", func := "plenum/plenumlaw35.ThermalSteady", spec := "thermalSteady", unfollowed := true, recurses := true, apart := false }
def ThermalSteadySaid : Prop := thermalSteadyRow.holds Try.pinned (OpenSpec.ofChange thermalSteadySpec)

/-- ITS FALSE NEIGHBOUR: 'it returns false'. Refute it at one input. -/
def thermalSteadyWrong : ChangeSpec := { name := "thermalSteady", fn := fun _ => fun
  | [d1, d2, d3, d4, d5] => { results := [.lit (.bool false)], args := [d1, d2, d3, d4, d5] }
  | _ => none }
def ThermalSteadyWrongFalsely : Prop := thermalSteadyRow.holds Try.pinned (OpenSpec.ofChange thermalSteadyWrong)

/-- 'plenumlaw35.ThermalIterates': WHATEVER THE INPUT: true; the input reads as it did. -/
def thermalIteratesSpec : ChangeSpec := { name := "thermalIterates", fn := fun _ => fun
  | [d1, d2, d3, d4, d5, d6] => { results := [.lit (.bool true)], args := [d1, d2, d3, d4, d5, d6] }
  | _ => none }
def thermalIteratesRow : OpenClaim := { program := "ythlokfpboinmpaa", sum := "47bcebf3bf9d498b259470c8d81c599ceabb6574dc4f5feb7f3c77ec3bc7633c", func := "plenum/plenumlaw35.ThermalIterates", spec := "thermalIterates", unfollowed := true, recurses := true, apart := false }
def ThermalIteratesSaid : Prop := thermalIteratesRow.holds Try.pinned (OpenSpec.ofChange thermalIteratesSpec)

/-- ITS FALSE NEIGHBOUR: 'it returns false'. Refute it at one input. -/
def thermalIteratesWrong : ChangeSpec := { name := "thermalIterates", fn := fun _ => fun
  | [d1, d2, d3, d4, d5, d6] => { results := [.lit (.bool false)], args := [d1, d2, d3, d4, d5, d6] }
  | _ => none }
def ThermalIteratesWrongFalsely : Prop := thermalIteratesRow.holds Try.pinned (OpenSpec.ofChange thermalIteratesWrong)

/-- 'plenumlaw35.ThermalNeeded': WHATEVER THE INPUT: true; the input reads as it did. -/
def thermalNeededSpec : ChangeSpec := { name := "thermalNeeded", fn := fun _ => fun
  | [d1, d2, d3, d4, d5, d6, d7] => { results := [.lit (.bool true)], args := [d1, d2, d3, d4, d5, d6, d7] }
  | _ => none }
def thermalNeededRow : OpenClaim := { program := "ythlokfpboinmpaa", sum := "47bcebf3bf9d498b259470c8d81c599ceabb6574dc4f5feb7f3c77ec3bc7633c", func := "plenum/plenumlaw35.ThermalNeeded", spec := "thermalNeeded", unfollowed := true, recurses := true, apart := false }
def ThermalNeededSaid : Prop := thermalNeededRow.holds Try.pinned (OpenSpec.ofChange thermalNeededSpec)

/-- ITS FALSE NEIGHBOUR: 'it returns false'. Refute it at one input. -/
def thermalNeededWrong : ChangeSpec := { name := "thermalNeeded", fn := fun _ => fun
  | [d1, d2, d3, d4, d5, d6, d7] => { results := [.lit (.bool false)], args := [d1, d2, d3, d4, d5, d6, d7] }
  | _ => none }
def ThermalNeededWrongFalsely : Prop := thermalNeededRow.holds Try.pinned (OpenSpec.ofChange thermalNeededWrong)

/-- 'plenumlaw35.ThermalArrives': WHATEVER THE INPUT: true; the input reads as it did. -/
def thermalArrivesSpec : ChangeSpec := { name := "thermalArrives", fn := fun _ => fun
  | [d1, d2, d3, d4, d5, d6, d7] => { results := [.lit (.bool true)], args := [d1, d2, d3, d4, d5, d6, d7] }
  | _ => none }
def thermalArrivesRow : OpenClaim := { program := "ythlokfpboinmpaa", sum := "47bcebf3bf9d498b259470c8d81c599ceabb6574dc4f5feb7f3c77ec3bc7633c", func := "plenum/plenumlaw35.ThermalArrives", spec := "thermalArrives", unfollowed := true, recurses := true, apart := false }
def ThermalArrivesSaid : Prop := thermalArrivesRow.holds Try.pinned (OpenSpec.ofChange thermalArrivesSpec)

/-- ITS FALSE NEIGHBOUR: 'it returns false'. Refute it at one input. -/
def thermalArrivesWrong : ChangeSpec := { name := "thermalArrives", fn := fun _ => fun
  | [d1, d2, d3, d4, d5, d6, d7] => { results := [.lit (.bool false)], args := [d1, d2, d3, d4, d5, d6, d7] }
  | _ => none }
def ThermalArrivesWrongFalsely : Prop := thermalArrivesRow.holds Try.pinned (OpenSpec.ofChange thermalArrivesWrong)

/- THE SECOND FORM. 'bulk': how many values and letters a reading holds, each counted each time it is reached (what is shared counts as often as it is met; a slice's spare places count too). A statement '..UptoSaid' is the law's where the arguments, and the package variables that the reading takes, are together of bulk at most 1048576: NARROWER than '..Said'. Prove '..Said' where nothing that the law and all that it calls make is longer than what came in: it says more and counts as full. Else prove '..UptoSaid'. A law counts once. -/
mutual
def uptoBulk {H : Type} : DataW H → Nat
  | .lit (.string bytes) => bytes.length + 1
  | .lit _ => 1
  | .nil => 1
  | .ptr d => uptoBulk d + 1
  | .slice elems spare => uptoBulkAll elems + uptoBulkAll spare + 1
  | .agg parts => uptoBulkAll parts + 1
  | .iface _ d => uptoBulk d + 1
  | .map entries => uptoBulkEntries entries + 1
  | .held _ => 1
def uptoBulkAll {H : Type} : List (DataW H) → Nat
  | [] => 0
  | d :: r => uptoBulk d + uptoBulkAll r
def uptoBulkEntries {H : Type} : List (Lit × DataW H) → Nat
  | [] => 0
  | x :: r => uptoBulkEntry x + uptoBulkEntries r
def uptoBulkEntry {H : Type} : Lit × DataW H → Nat
  | (.string bytes, d) => bytes.length + uptoBulk d + 1
  | (_, d) => uptoBulk d + 1
 end
def uptoSmall : (H : Type) → List (DataW H) → Bool := fun _ ds => decide (uptoBulkAll ds ≤ 1048576)
def OpenSpec.upto (s : _root_.Go.ChangeSpec) : _root_.Go.OpenSpec := { _root_.Go.OpenSpec.ofChange s with cond := some uptoSmall }

/-- 'plenumlaw35.ThermalSteps', WHERE WHAT IT READS IS OF BULK AT MOST 1048576: true; the input reads as it did. -/
def thermalStepsUptoRow : OpenClaim := { program := "ythlokfpboinmpaa", sum := "47bcebf3bf9d498b259470c8d81c599ceabb6574dc4f5feb7f3c77ec3bc7633c", func := "plenum/plenumlaw35.ThermalSteps", spec := "thermalSteps", unfollowed := true, recurses := true, apart := false, narrowed := true }
def ThermalStepsUptoSaid : Prop := thermalStepsUptoRow.holds Try.pinned (OpenSpec.upto thermalStepsSpec)

/-- 'plenumlaw35.ThermalRuns', WHERE WHAT IT READS IS OF BULK AT MOST 1048576: true; the input reads as it did. -/
def thermalRunsUptoRow : OpenClaim := { program := "ythlokfpboinmpaa", sum := "47bcebf3bf9d498b259470c8d81c599ceabb6574dc4f5feb7f3c77ec3bc7633c", func := "plenum/plenumlaw35.ThermalRuns", spec := "thermalRuns", unfollowed := true, recurses := true, apart := false, narrowed := true }
def ThermalRunsUptoSaid : Prop := thermalRunsUptoRow.holds Try.pinned (OpenSpec.upto thermalRunsSpec)

/-- 'plenumlaw35.ThermalReaches', WHERE WHAT IT READS IS OF BULK AT MOST 1048576: true; the input reads as it did. -/
def thermalReachesUptoRow : OpenClaim := { program := "ythlokfpboinmpaa", sum := "47bcebf3bf9d498b259470c8d81c599ceabb6574dc4f5feb7f3c77ec3bc7633c", func := "plenum/plenumlaw35.ThermalReaches", spec := "thermalReaches", unfollowed := true, recurses := true, apart := false, narrowed := true }
def ThermalReachesUptoSaid : Prop := thermalReachesUptoRow.holds Try.pinned (OpenSpec.upto thermalReachesSpec)

/-- 'plenumlaw35.ThermalMonotone', WHERE WHAT IT READS IS OF BULK AT MOST 1048576: true; the input reads as it did. -/
def thermalMonotoneUptoRow : OpenClaim := { program := "ythlokfpboinmpaa", sum := "47bcebf3bf9d498b259470c8d81c599ceabb6574dc4f5feb7f3c77ec3bc7633c", func := "plenum/plenumlaw35.ThermalMonotone", spec := "thermalMonotone", unfollowed := true, recurses := true, apart := false, narrowed := true }
def ThermalMonotoneUptoSaid : Prop := thermalMonotoneUptoRow.holds Try.pinned (OpenSpec.upto thermalMonotoneSpec)

/-- 'plenumlaw35.ThermalSteady', WHERE WHAT IT READS IS OF BULK AT MOST 1048576: true; the input reads as it did. -/
def thermalSteadyUptoRow : OpenClaim := { program := "ythlokfpboinmpaa", sum := "47bcebf3bf9d498b259470c8d81c599ceabb6574dc4f5feb7f3c77ec3bc7633c", func := "plenum/plenumlaw35.ThermalSteady", spec := "thermalSteady", unfollowed := true, recurses := true, apart := false, narrowed := true }
def ThermalSteadyUptoSaid : Prop := thermalSteadyUptoRow.holds Try.pinned (OpenSpec.upto thermalSteadySpec)

/-- 'plenumlaw35.ThermalIterates', WHERE WHAT IT READS IS OF BULK AT MOST 1048576: true; the input reads as it did. -/
def thermalIteratesUptoRow : OpenClaim := { program := "ythlokfpboinmpaa", sum := "47bcebf3bf9d498b259470c8d81c599ceabb6574dc4f5feb7f3c77ec3bc7633c", func := "plenum/plenumlaw35.ThermalIterates", spec := "thermalIterates", unfollowed := true, recurses := true, apart := false, narrowed := true }
def ThermalIteratesUptoSaid : Prop := thermalIteratesUptoRow.holds Try.pinned (OpenSpec.upto thermalIteratesSpec)

/-- 'plenumlaw35.ThermalNeeded', WHERE WHAT IT READS IS OF BULK AT MOST 1048576: true; the input reads as it did. -/
def thermalNeededUptoRow : OpenClaim := { program := "ythlokfpboinmpaa", sum := "47bcebf3bf9d498b259470c8d81c599ceabb6574dc4f5feb7f3c77ec3bc7633c", func := "plenum/plenumlaw35.ThermalNeeded", spec := "thermalNeeded", unfollowed := true, recurses := true, apart := false, narrowed := true }
def ThermalNeededUptoSaid : Prop := thermalNeededUptoRow.holds Try.pinned (OpenSpec.upto thermalNeededSpec)

/-- 'plenumlaw35.ThermalArrives', WHERE WHAT IT READS IS OF BULK AT MOST 1048576: true; the input reads as it did. -/
def thermalArrivesUptoRow : OpenClaim := { program := "ythlokfpboinmpaa", sum := "47bcebf3bf9d498b259470c8d81c599ceabb6574dc4f5feb7f3c77ec3bc7633c", func := "plenum/plenumlaw35.ThermalArrives", spec := "thermalArrives", unfollowed := true, recurses := true, apart := false, narrowed := true }
def ThermalArrivesUptoSaid : Prop := thermalArrivesUptoRow.holds Try.pinned (OpenSpec.upto thermalArrivesSpec)

end Rows
end Go.Proofs.Ythlokfpboinmpaa
