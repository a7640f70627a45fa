/-
  NARROWER THAN 'FOR EVERY INPUT', by the rows' own cells (each row's printed sentence says how): PidVelocity: laid · PidFollows: laid · PidSettles: laid · PidTracks: laid.
  DERIVED. THE GIVEN ROWS OF THIS SEAT. 4 by the template 'for every input the law returns true; each argument reads behind the call as it read before'; 0 by the template 'total and deterministic' (their statements: YteigdhpchkkloaaDoorTotals.lean).
  GIVEN WITH THE SEED: the statements are not yours to turn. If you find one false, say at which input.
  Laid BY PROGRAM, IN A SANDBOX (cutbox-rows.mjs): the forced cells as the released guide's own fill.sh prints them over the translation db9924fe872da85e… (all of the seat's roots in one cut). By AI agents, Wed Nov 11 2026. No macro, syntax, notation, axiom, sorry.
-/
import Derived.Test.YteigdhpchkkloaaDoorChecked
import GoSem.Claim
import GoSem.ClaimJoined
import GoSem.ClaimMapViews
import Derived.JoinedTies
import Derived.KernelRfl
namespace Go.Proofs.YteigdhpchkkloaaDoor
/- THE CELL 'sum', in the pinned program and in every row, IS THE sha256 OF THE DUMP (.gsa) THAT YteigdhpchkkloaaDoorProg.lean LOADS. Nothing in Lean hashes anything: it is a label: what it is worth is what the hold of that sum in a sandbox is worth. -/
noncomputable def Tryd.pinned : Pinned := { name := "yteigdhpchkkloaadoor", sum := "db9924fe872da85eca553a475c1e9c6bebe2aa711dcbd0fc6721eb31851012ce", checked := Tryd.checked }
namespace Rows
def none {H : Type} : Left H := { results := [], args := [] }

/- WHAT THE LISTED PACKAGE-LEVEL VARIABLES READ AS WHEN THE CALL BEGINS. Each datum BY PROGRAM (the guide's laid-datum.mjs) off the statement by which the dump's own 'gosem.cut.vars' lays the variable. In a bare row this is a premise. The card (YteigdhpchkkloaaDoorCards.lean) ties it to the program's text. -/
def laid_plenum_pid_blocks {H : Type} : DataW H := .iface "func table" (.map [(.string [112, 105, 100], .agg [.lit (.int .i64 5), .lit (.int .i64 3), .slice [.lit (.int .i64 1), .lit (.int .i64 1), .lit (.int .i64 2)] [], .iface "func" (.lit (.string [112, 108, 101, 110, 117, 109, 47, 112, 105, 100, 46, 98, 108, 111, 99, 107, 115, 36, 49])), .iface "func" (.lit (.string [112, 108, 101, 110, 117, 109, 47, 112, 105, 100, 46, 98, 108, 111, 99, 107, 115, 36, 50]))]), (.string [114, 97, 116, 101], .agg [.lit (.int .i64 2), .lit (.int .i64 2), .slice [.lit (.int .i64 1)] [], .iface "func" (.lit (.string [112, 108, 101, 110, 117, 109, 47, 112, 105, 100, 46, 98, 108, 111, 99, 107, 115, 36, 51])), .iface "func" (.lit (.string [112, 108, 101, 110, 117, 109, 47, 112, 105, 100, 46, 98, 108, 111, 99, 107, 115, 36, 52]))])])

/-- 'plenumlaw20.PidVelocity': WHATEVER THE INPUT: true; the input reads as it did. -/
def pidVelocitySpec : ChangeSpec := { name := "pidVelocity", fn := fun _ => fun
  | [d1, d2, d3, d4] => { results := [.lit (.bool true)], args := [d1, d2, d3, d4] }
  | _ => none }
def pidVelocityRow : OpenClaim := { program := "yteigdhpchkkloaadoor", sum := "db9924fe872da85eca553a475c1e9c6bebe2aa711dcbd0fc6721eb31851012ce", func := "plenum/plenumlaw20.PidVelocity", spec := "pidVelocity", unfollowed := true, recurses := true, named := ["math/bits.divideError", "math/bits.overflowError", "plenum/pid.blocks"], apart := false, laid := [("plenum/pid.blocks", laid_plenum_pid_blocks)] }
def PidVelocitySaid : Prop := pidVelocityRow.holds Tryd.pinned (OpenSpec.ofChange pidVelocitySpec)

/-- ITS FALSE NEIGHBOUR: 'it returns false'. Refute it at one input. -/
def pidVelocityWrong : ChangeSpec := { name := "pidVelocity", fn := fun _ => fun
  | [d1, d2, d3, d4] => { results := [.lit (.bool false)], args := [d1, d2, d3, d4] }
  | _ => none }
def PidVelocityWrongFalsely : Prop := pidVelocityRow.holds Tryd.pinned (OpenSpec.ofChange pidVelocityWrong)

/-- 'plenumlaw20.PidFollows': WHATEVER THE INPUT: true; the input reads as it did. -/
def pidFollowsSpec : ChangeSpec := { name := "pidFollows", fn := fun _ => fun
  | [d1, d2, d3, d4, d5] => { results := [.lit (.bool true)], args := [d1, d2, d3, d4, d5] }
  | _ => none }
def pidFollowsRow : OpenClaim := { program := "yteigdhpchkkloaadoor", sum := "db9924fe872da85eca553a475c1e9c6bebe2aa711dcbd0fc6721eb31851012ce", func := "plenum/plenumlaw20.PidFollows", spec := "pidFollows", unfollowed := true, recurses := true, named := ["math/bits.divideError", "math/bits.overflowError", "plenum/pid.blocks"], apart := false, laid := [("plenum/pid.blocks", laid_plenum_pid_blocks)] }
def PidFollowsSaid : Prop := pidFollowsRow.holds Tryd.pinned (OpenSpec.ofChange pidFollowsSpec)

/-- ITS FALSE NEIGHBOUR: 'it returns false'. Refute it at one input. -/
def pidFollowsWrong : ChangeSpec := { name := "pidFollows", fn := fun _ => fun
  | [d1, d2, d3, d4, d5] => { results := [.lit (.bool false)], args := [d1, d2, d3, d4, d5] }
  | _ => none }
def PidFollowsWrongFalsely : Prop := pidFollowsRow.holds Tryd.pinned (OpenSpec.ofChange pidFollowsWrong)

/-- 'plenumlaw20.PidSettles': WHATEVER THE INPUT: true; the input reads as it did. -/
def pidSettlesSpec : ChangeSpec := { name := "pidSettles", fn := fun _ => fun
  | [d1, d2, d3, d4, d5] => { results := [.lit (.bool true)], args := [d1, d2, d3, d4, d5] }
  | _ => none }
def pidSettlesRow : OpenClaim := { program := "yteigdhpchkkloaadoor", sum := "db9924fe872da85eca553a475c1e9c6bebe2aa711dcbd0fc6721eb31851012ce", func := "plenum/plenumlaw20.PidSettles", spec := "pidSettles", unfollowed := true, recurses := true, named := ["math/bits.divideError", "math/bits.overflowError", "plenum/pid.blocks"], apart := false, laid := [("plenum/pid.blocks", laid_plenum_pid_blocks)] }
def PidSettlesSaid : Prop := pidSettlesRow.holds Tryd.pinned (OpenSpec.ofChange pidSettlesSpec)

/-- ITS FALSE NEIGHBOUR: 'it returns false'. Refute it at one input. -/
def pidSettlesWrong : ChangeSpec := { name := "pidSettles", fn := fun _ => fun
  | [d1, d2, d3, d4, d5] => { results := [.lit (.bool false)], args := [d1, d2, d3, d4, d5] }
  | _ => none }
def PidSettlesWrongFalsely : Prop := pidSettlesRow.holds Tryd.pinned (OpenSpec.ofChange pidSettlesWrong)

/-- 'plenumlaw20.PidTracks': WHATEVER THE INPUT: true; the input reads as it did. -/
def pidTracksSpec : ChangeSpec := { name := "pidTracks", fn := fun _ => fun
  | [d1, d2, d3, d4, d5] => { results := [.lit (.bool true)], args := [d1, d2, d3, d4, d5] }
  | _ => none }
def pidTracksRow : OpenClaim := { program := "yteigdhpchkkloaadoor", sum := "db9924fe872da85eca553a475c1e9c6bebe2aa711dcbd0fc6721eb31851012ce", func := "plenum/plenumlaw20.PidTracks", spec := "pidTracks", unfollowed := true, recurses := true, named := ["math/bits.divideError", "math/bits.overflowError", "plenum/pid.blocks"], apart := false, laid := [("plenum/pid.blocks", laid_plenum_pid_blocks)] }
def PidTracksSaid : Prop := pidTracksRow.holds Tryd.pinned (OpenSpec.ofChange pidTracksSpec)

/-- ITS FALSE NEIGHBOUR: 'it returns false'. Refute it at one input. -/
def pidTracksWrong : ChangeSpec := { name := "pidTracks", fn := fun _ => fun
  | [d1, d2, d3, d4, d5] => { results := [.lit (.bool false)], args := [d1, d2, d3, d4, d5] }
  | _ => none }
def PidTracksWrongFalsely : Prop := pidTracksRow.holds Tryd.pinned (OpenSpec.ofChange pidTracksWrong)

/- THE SECOND FORM. 'bulk': how many values and letters a reading holds, each counted each time it is reached (what is shared counts as often as it is met; a slice's spare places count too). A statement '..UptoSaid' is the law's where the arguments, and the package variables that the reading takes, are together of bulk at most 1048576: NARROWER than '..Said'. Prove '..Said' where nothing that the law and all that it calls make is longer than what came in: it says more and counts as full. Else prove '..UptoSaid'. A law counts once. -/
mutual
def uptoBulk {H : Type} : DataW H → Nat
  | .lit (.string bytes) => bytes.length + 1
  | .lit _ => 1
  | .nil => 1
  | .ptr d => uptoBulk d + 1
  | .slice elems spare => uptoBulkAll elems + uptoBulkAll spare + 1
  | .agg parts => uptoBulkAll parts + 1
  | .iface _ d => uptoBulk d + 1
  | .map entries => uptoBulkEntries entries + 1
  | .held _ => 1
def uptoBulkAll {H : Type} : List (DataW H) → Nat
  | [] => 0
  | d :: r => uptoBulk d + uptoBulkAll r
def uptoBulkEntries {H : Type} : List (Lit × DataW H) → Nat
  | [] => 0
  | x :: r => uptoBulkEntry x + uptoBulkEntries r
def uptoBulkEntry {H : Type} : Lit × DataW H → Nat
  | (.string bytes, d) => bytes.length + uptoBulk d + 1
  | (_, d) => uptoBulk d + 1
 end
def uptoSmall : (H : Type) → List (DataW H) → Bool := fun _ ds => decide (uptoBulkAll ds ≤ 1048576)
def OpenSpec.upto (s : _root_.Go.ChangeSpec) : _root_.Go.OpenSpec := { _root_.Go.OpenSpec.ofChange s with cond := some uptoSmall }

/-- 'plenumlaw20.PidVelocity', WHERE WHAT IT READS IS OF BULK AT MOST 1048576: true; the input reads as it did. -/
def pidVelocityUptoRow : OpenClaim := { program := "yteigdhpchkkloaadoor", sum := "db9924fe872da85eca553a475c1e9c6bebe2aa711dcbd0fc6721eb31851012ce", func := "plenum/plenumlaw20.PidVelocity", spec := "pidVelocity", unfollowed := true, recurses := true, named := ["math/bits.divideError", "math/bits.overflowError", "plenum/pid.blocks"], apart := false, laid := [("plenum/pid.blocks", laid_plenum_pid_blocks)], narrowed := true }
def PidVelocityUptoSaid : Prop := pidVelocityUptoRow.holds Tryd.pinned (OpenSpec.upto pidVelocitySpec)

/-- 'plenumlaw20.PidFollows', WHERE WHAT IT READS IS OF BULK AT MOST 1048576: true; the input reads as it did. -/
def pidFollowsUptoRow : OpenClaim := { program := "yteigdhpchkkloaadoor", sum := "db9924fe872da85eca553a475c1e9c6bebe2aa711dcbd0fc6721eb31851012ce", func := "plenum/plenumlaw20.PidFollows", spec := "pidFollows", unfollowed := true, recurses := true, named := ["math/bits.divideError", "math/bits.overflowError", "plenum/pid.blocks"], apart := false, laid := [("plenum/pid.blocks", laid_plenum_pid_blocks)], narrowed := true }
def PidFollowsUptoSaid : Prop := pidFollowsUptoRow.holds Tryd.pinned (OpenSpec.upto pidFollowsSpec)

/-- 'plenumlaw20.PidSettles', WHERE WHAT IT READS IS OF BULK AT MOST 1048576: true; the input reads as it did. -/
def pidSettlesUptoRow : OpenClaim := { program := "yteigdhpchkkloaadoor", sum := "db9924fe872da85eca553a475c1e9c6bebe2aa711dcbd0fc6721eb31851012ce", func := "plenum/plenumlaw20.PidSettles", spec := "pidSettles", unfollowed := true, recurses := true, named := ["math/bits.divideError", "math/bits.overflowError", "plenum/pid.blocks"], apart := false, laid := [("plenum/pid.blocks", laid_plenum_pid_blocks)], narrowed := true }
def PidSettlesUptoSaid : Prop := pidSettlesUptoRow.holds Tryd.pinned (OpenSpec.upto pidSettlesSpec)

/-- 'plenumlaw20.PidTracks', WHERE WHAT IT READS IS OF BULK AT MOST 1048576: true; the input reads as it did. -/
def pidTracksUptoRow : OpenClaim := { program := "yteigdhpchkkloaadoor", sum := "db9924fe872da85eca553a475c1e9c6bebe2aa711dcbd0fc6721eb31851012ce", func := "plenum/plenumlaw20.PidTracks", spec := "pidTracks", unfollowed := true, recurses := true, named := ["math/bits.divideError", "math/bits.overflowError", "plenum/pid.blocks"], apart := false, laid := [("plenum/pid.blocks", laid_plenum_pid_blocks)], narrowed := true }
def PidTracksUptoSaid : Prop := pidTracksUptoRow.holds Tryd.pinned (OpenSpec.upto pidTracksSpec)

end Rows
end Go.Proofs.YteigdhpchkkloaaDoor
