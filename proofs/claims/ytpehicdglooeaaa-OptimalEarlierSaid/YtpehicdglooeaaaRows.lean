/-
  No cell of these rows narrows 'for every input' (looked for: loops, veiled, ifaces, maps, wideKeys, modest, calm, conditions, laid).
  DERIVED. THE GIVEN ROWS OF THIS SEAT. 5 by the template 'for every input the law returns true; each argument reads behind the call as it read before'; 0 by the template 'total and deterministic' (their statements: YtpehicdglooeaaaTotals.lean).
  GIVEN WITH THE SEED: the statements are not yours to turn. If you find one false, say at which input.
  Laid BY PROGRAM, IN A SANDBOX (cutbox-rows.mjs): the forced cells as the released guide's own fill.sh prints them over the translation 0982c8ee61a4e5b2… (all of the seat's roots in one cut). By AI agents, Wed Nov 11 2026. No macro, syntax, notation, axiom, sorry.
-/
import Derived.Test.YtpehicdglooeaaaChecked
import GoSem.Claim
import GoSem.ClaimJoined
import GoSem.ClaimMapViews
import Derived.JoinedTies
import Derived.KernelRfl
namespace Go.Proofs.Ytpehicdglooeaaa
/- THE CELL 'sum', in the pinned program and in every row, IS THE sha256 OF THE DUMP (.gsa) THAT YtpehicdglooeaaaProg.lean LOADS. Nothing in Lean hashes anything: it is a label: what it is worth is what the hold of that sum in a sandbox is worth. -/
noncomputable def Try.pinned : Pinned := { name := "ytpehicdglooeaaa", sum := "0982c8ee61a4e5b2689efe7c980aa20eafd6bfe45b5360aba6721af8af010c57", checked := Try.checked }
namespace Rows
def none {H : Type} : Left H := { results := [], args := [] }

/-- 'plenumlaw36.OptimalLatest': WHATEVER THE INPUT: true; the input reads as it did. -/
def optimalLatestSpec : ChangeSpec := { name := "optimalLatest", fn := fun _ => fun
  | [d1, d2, d3, d4] => { results := [.lit (.bool true)], args := [d1, d2, d3, d4] }
  | _ => none }
def optimalLatestRow : OpenClaim := { program := "ytpehicdglooeaaa", sum := "0982c8ee61a4e5b2689efe7c980aa20eafd6bfe45b5360aba6721af8af010c57", func := "plenum/plenumlaw36.OptimalLatest", spec := "optimalLatest", unfollowed := true, recurses := true, apart := false }
def OptimalLatestSaid : Prop := optimalLatestRow.holds Try.pinned (OpenSpec.ofChange optimalLatestSpec)

/-- ITS FALSE NEIGHBOUR: 'it returns false'. Refute it at one input. -/
def optimalLatestWrong : ChangeSpec := { name := "optimalLatest", fn := fun _ => fun
  | [d1, d2, d3, d4] => { results := [.lit (.bool false)], args := [d1, d2, d3, d4] }
  | _ => none }
def OptimalLatestWrongFalsely : Prop := optimalLatestRow.holds Try.pinned (OpenSpec.ofChange optimalLatestWrong)

/-- 'plenumlaw36.OptimalLearns': WHATEVER THE INPUT: true; the input reads as it did. -/
def optimalLearnsSpec : ChangeSpec := { name := "optimalLearns", fn := fun _ => fun
  | [d1, d2, d3] => { results := [.lit (.bool true)], args := [d1, d2, d3] }
  | _ => none }
def optimalLearnsRow : OpenClaim := { program := "ytpehicdglooeaaa", sum := "0982c8ee61a4e5b2689efe7c980aa20eafd6bfe45b5360aba6721af8af010c57", func := "plenum/plenumlaw36.OptimalLearns", spec := "optimalLearns", unfollowed := true, recurses := true, apart := false }
def OptimalLearnsSaid : Prop := optimalLearnsRow.holds Try.pinned (OpenSpec.ofChange optimalLearnsSpec)

/-- ITS FALSE NEIGHBOUR: 'it returns false'. Refute it at one input. -/
def optimalLearnsWrong : ChangeSpec := { name := "optimalLearns", fn := fun _ => fun
  | [d1, d2, d3] => { results := [.lit (.bool false)], args := [d1, d2, d3] }
  | _ => none }
def OptimalLearnsWrongFalsely : Prop := optimalLearnsRow.holds Try.pinned (OpenSpec.ofChange optimalLearnsWrong)

/-- 'plenumlaw36.OptimalCurves': WHATEVER THE INPUT: true; the input reads as it did. -/
def optimalCurvesSpec : ChangeSpec := { name := "optimalCurves", fn := fun _ => fun
  | [d1, d2, d3, d4] => { results := [.lit (.bool true)], args := [d1, d2, d3, d4] }
  | _ => none }
def optimalCurvesRow : OpenClaim := { program := "ytpehicdglooeaaa", sum := "0982c8ee61a4e5b2689efe7c980aa20eafd6bfe45b5360aba6721af8af010c57", func := "plenum/plenumlaw36.OptimalCurves", spec := "optimalCurves", unfollowed := true, recurses := true, apart := false }
def OptimalCurvesSaid : Prop := optimalCurvesRow.holds Try.pinned (OpenSpec.ofChange optimalCurvesSpec)

/-- ITS FALSE NEIGHBOUR: 'it returns false'. Refute it at one input. -/
def optimalCurvesWrong : ChangeSpec := { name := "optimalCurves", fn := fun _ => fun
  | [d1, d2, d3, d4] => { results := [.lit (.bool false)], args := [d1, d2, d3, d4] }
  | _ => none }
def OptimalCurvesWrongFalsely : Prop := optimalCurvesRow.holds Try.pinned (OpenSpec.ofChange optimalCurvesWrong)

/-- 'plenumlaw36.OptimalEarlier': WHATEVER THE INPUT: true; the input reads as it did. -/
def optimalEarlierSpec : ChangeSpec := { name := "optimalEarlier", fn := fun _ => fun
  | [d1, d2, d3, d4, d5, d6] => { results := [.lit (.bool true)], args := [d1, d2, d3, d4, d5, d6] }
  | _ => none }
def optimalEarlierRow : OpenClaim := { program := "ytpehicdglooeaaa", sum := "0982c8ee61a4e5b2689efe7c980aa20eafd6bfe45b5360aba6721af8af010c57", func := "plenum/plenumlaw36.OptimalEarlier", spec := "optimalEarlier", unfollowed := true, recurses := true, apart := false }
def OptimalEarlierSaid : Prop := optimalEarlierRow.holds Try.pinned (OpenSpec.ofChange optimalEarlierSpec)

/-- ITS FALSE NEIGHBOUR: 'it returns false'. Refute it at one input. -/
def optimalEarlierWrong : ChangeSpec := { name := "optimalEarlier", fn := fun _ => fun
  | [d1, d2, d3, d4, d5, d6] => { results := [.lit (.bool false)], args := [d1, d2, d3, d4, d5, d6] }
  | _ => none }
def OptimalEarlierWrongFalsely : Prop := optimalEarlierRow.holds Try.pinned (OpenSpec.ofChange optimalEarlierWrong)

/-- 'plenumlaw36.OptimalExplains': WHATEVER THE INPUT: true; the input reads as it did. -/
def optimalExplainsSpec : ChangeSpec := { name := "optimalExplains", fn := fun _ => fun
  | [d1, d2, d3, d4, d5] => { results := [.lit (.bool true)], args := [d1, d2, d3, d4, d5] }
  | _ => none }
def optimalExplainsRow : OpenClaim := { program := "ytpehicdglooeaaa", sum := "0982c8ee61a4e5b2689efe7c980aa20eafd6bfe45b5360aba6721af8af010c57", func := "plenum/plenumlaw36.OptimalExplains", spec := "optimalExplains", unfollowed := true, recurses := true, apart := false }
def OptimalExplainsSaid : Prop := optimalExplainsRow.holds Try.pinned (OpenSpec.ofChange optimalExplainsSpec)

/-- ITS FALSE NEIGHBOUR: 'it returns false'. Refute it at one input. -/
def optimalExplainsWrong : ChangeSpec := { name := "optimalExplains", fn := fun _ => fun
  | [d1, d2, d3, d4, d5] => { results := [.lit (.bool false)], args := [d1, d2, d3, d4, d5] }
  | _ => none }
def OptimalExplainsWrongFalsely : Prop := optimalExplainsRow.holds Try.pinned (OpenSpec.ofChange optimalExplainsWrong)

/- THE SECOND FORM. 'bulk': how many values and letters a reading holds, each counted each time it is reached (what is shared counts as often as it is met; a slice's spare places count too). A statement '..UptoSaid' is the law's where the arguments, and the package variables that the reading takes, are together of bulk at most 1048576: NARROWER than '..Said'. Prove '..Said' where nothing that the law and all that it calls make is longer than what came in: it says more and counts as full. Else prove '..UptoSaid'. A law counts once. -/
mutual
def uptoBulk {H : Type} : DataW H → Nat
  | .lit (.string bytes) => bytes.length + 1
  | .lit _ => 1
  | .nil => 1
  | .ptr d => uptoBulk d + 1
  | .slice elems spare => uptoBulkAll elems + uptoBulkAll spare + 1
  | .agg parts => uptoBulkAll parts + 1
  | .iface _ d => uptoBulk d + 1
  | .map entries => uptoBulkEntries entries + 1
  | .held _ => 1
def uptoBulkAll {H : Type} : List (DataW H) → Nat
  | [] => 0
  | d :: r => uptoBulk d + uptoBulkAll r
def uptoBulkEntries {H : Type} : List (Lit × DataW H) → Nat
  | [] => 0
  | x :: r => uptoBulkEntry x + uptoBulkEntries r
def uptoBulkEntry {H : Type} : Lit × DataW H → Nat
  | (.string bytes, d) => bytes.length + uptoBulk d + 1
  | (_, d) => uptoBulk d + 1
 end
def uptoSmall : (H : Type) → List (DataW H) → Bool := fun _ ds => decide (uptoBulkAll ds ≤ 1048576)
def OpenSpec.upto (s : _root_.Go.ChangeSpec) : _root_.Go.OpenSpec := { _root_.Go.OpenSpec.ofChange s with cond := some uptoSmall }

/-- 'plenumlaw36.OptimalLatest', WHERE WHAT IT READS IS OF BULK AT MOST 1048576: true; the input reads as it did. -/
def optimalLatestUptoRow : OpenClaim := { program := "ytpehicdglooeaaa", sum := "0982c8ee61a4e5b2689efe7c980aa20eafd6bfe45b5360aba6721af8af010c57", func := "plenum/plenumlaw36.OptimalLatest", spec := "optimalLatest", unfollowed := true, recurses := true, apart := false, narrowed := true }
def OptimalLatestUptoSaid : Prop := optimalLatestUptoRow.holds Try.pinned (OpenSpec.upto optimalLatestSpec)

/-- 'plenumlaw36.OptimalLearns', WHERE WHAT IT READS IS OF BULK AT MOST 1048576: true; the input reads as it did. -/
def optimalLearnsUptoRow : OpenClaim := { program := "ytpehicdglooeaaa", sum := "0982c8ee61a4e5b2689efe7c980aa20eafd6bfe45b5360aba6721af8af010c57", func := "plenum/plenumlaw36.OptimalLearns", spec := "optimalLearns", unfollowed := true, recurses := true, apart := false, narrowed := true }
def OptimalLearnsUptoSaid : Prop := optimalLearnsUptoRow.holds Try.pinned (OpenSpec.upto optimalLearnsSpec)

/-- 'plenumlaw36.OptimalCurves', WHERE WHAT IT READS IS OF BULK AT MOST 1048576: true; the input reads as it did. -/
def optimalCurvesUptoRow : OpenClaim := { program := "ytpehicdglooeaaa", sum := "0982c8ee61a4e5b2689efe7c980aa20eafd6bfe45b5360aba6721af8af010c57", func := "plenum/plenumlaw36.OptimalCurves", spec := "optimalCurves", unfollowed := true, recurses := true, apart := false, narrowed := true }
def OptimalCurvesUptoSaid : Prop := optimalCurvesUptoRow.holds Try.pinned (OpenSpec.upto optimalCurvesSpec)

/-- 'plenumlaw36.OptimalEarlier', WHERE WHAT IT READS IS OF BULK AT MOST 1048576: true; the input reads as it did. -/
def optimalEarlierUptoRow : OpenClaim := { program := "ytpehicdglooeaaa", sum := "0982c8ee61a4e5b2689efe7c980aa20eafd6bfe45b5360aba6721af8af010c57", func := "plenum/plenumlaw36.OptimalEarlier", spec := "optimalEarlier", unfollowed := true, recurses := true, apart := false, narrowed := true }
def OptimalEarlierUptoSaid : Prop := optimalEarlierUptoRow.holds Try.pinned (OpenSpec.upto optimalEarlierSpec)

/-- 'plenumlaw36.OptimalExplains', WHERE WHAT IT READS IS OF BULK AT MOST 1048576: true; the input reads as it did. -/
def optimalExplainsUptoRow : OpenClaim := { program := "ytpehicdglooeaaa", sum := "0982c8ee61a4e5b2689efe7c980aa20eafd6bfe45b5360aba6721af8af010c57", func := "plenum/plenumlaw36.OptimalExplains", spec := "optimalExplains", unfollowed := true, recurses := true, apart := false, narrowed := true }
def OptimalExplainsUptoSaid : Prop := optimalExplainsUptoRow.holds Try.pinned (OpenSpec.upto optimalExplainsSpec)

end Rows
end Go.Proofs.Ytpehicdglooeaaa
