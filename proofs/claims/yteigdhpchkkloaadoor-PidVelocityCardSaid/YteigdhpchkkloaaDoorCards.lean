/-
  DERIVED. GIVEN WITH THE SEED: THE CARDS: each row of YteigdhpchkkloaaDoorRows.lean that lists a variable, with what it lists TIED to the program's text (the seventh form; the later family's looks); each row that meets fmt, with fmt's text TOLD by the authors' own Lean function (tested against real Go, not proved from fmt's source: count such statements apart). THE CARD IS WHAT COUNTS. Prove the row's statement (the work); the ties are given (YteigdhpchkkloaaDoorTie.lean); close each card by the builder's one call (the guide's Derived/Test/ToyasCard.lean, 'card_holds'). Laid BY PROGRAM, IN A SANDBOX (cutbox-door.mjs). By AI agents, Wed Nov 11 2026. No macro, syntax, notation, axiom, sorry.
-/
import Derived.Test.YteigdhpchkkloaaDoorRows
import GoSem.ClaimSeven
namespace Go.Proofs.YteigdhpchkkloaaDoor
namespace Rows

/-- THE TIED CARD OF 'plenumlaw20.PidVelocity'. -/
def pidVelocityCard : Claim7 := { stood := { row := pidVelocityRow, standIns := [], harness := (true, "e987aa1c0a451a69e0e07c3b5fc1934c55ff03c4be61b2297628606e4a6dcb2f"), looks := false }, kinds := [], alts := [], laidByText := true, laidKinds := [.funcsDeep], laidTests := true, laidLooks := .later }
def PidVelocityCardSaid : Prop := Claim7.holds Tryd.pinned (.plain (OpenSpec.ofChange pidVelocitySpec)) pidVelocityCard

/-- THE TIED CARD OF 'plenumlaw20.PidFollows'. -/
def pidFollowsCard : Claim7 := { stood := { row := pidFollowsRow, standIns := [], harness := (true, "e987aa1c0a451a69e0e07c3b5fc1934c55ff03c4be61b2297628606e4a6dcb2f"), looks := false }, kinds := [], alts := [], laidByText := true, laidKinds := [.funcsDeep], laidTests := true, laidLooks := .later }
def PidFollowsCardSaid : Prop := Claim7.holds Tryd.pinned (.plain (OpenSpec.ofChange pidFollowsSpec)) pidFollowsCard

/-- THE TIED CARD OF 'plenumlaw20.PidSettles'. -/
def pidSettlesCard : Claim7 := { stood := { row := pidSettlesRow, standIns := [], harness := (true, "e987aa1c0a451a69e0e07c3b5fc1934c55ff03c4be61b2297628606e4a6dcb2f"), looks := false }, kinds := [], alts := [], laidByText := true, laidKinds := [.funcsDeep], laidTests := true, laidLooks := .later }
def PidSettlesCardSaid : Prop := Claim7.holds Tryd.pinned (.plain (OpenSpec.ofChange pidSettlesSpec)) pidSettlesCard

/-- THE TIED CARD OF 'plenumlaw20.PidTracks'. -/
def pidTracksCard : Claim7 := { stood := { row := pidTracksRow, standIns := [], harness := (true, "e987aa1c0a451a69e0e07c3b5fc1934c55ff03c4be61b2297628606e4a6dcb2f"), looks := false }, kinds := [], alts := [], laidByText := true, laidKinds := [.funcsDeep], laidTests := true, laidLooks := .later }
def PidTracksCardSaid : Prop := Claim7.holds Tryd.pinned (.plain (OpenSpec.ofChange pidTracksSpec)) pidTracksCard

/-- THE SECOND FORM's CARD OF 'plenumlaw20.PidVelocity'. -/
def pidVelocityUptoCard : Claim7 := { stood := { row := pidVelocityUptoRow, standIns := [], harness := (true, "e987aa1c0a451a69e0e07c3b5fc1934c55ff03c4be61b2297628606e4a6dcb2f"), looks := false }, kinds := [], alts := [], laidByText := true, laidKinds := [.funcsDeep], laidTests := true, laidLooks := .later }
def PidVelocityUptoCardSaid : Prop := Claim7.holds Tryd.pinned (.plain (OpenSpec.upto pidVelocitySpec)) pidVelocityUptoCard

/-- THE SECOND FORM's CARD OF 'plenumlaw20.PidFollows'. -/
def pidFollowsUptoCard : Claim7 := { stood := { row := pidFollowsUptoRow, standIns := [], harness := (true, "e987aa1c0a451a69e0e07c3b5fc1934c55ff03c4be61b2297628606e4a6dcb2f"), looks := false }, kinds := [], alts := [], laidByText := true, laidKinds := [.funcsDeep], laidTests := true, laidLooks := .later }
def PidFollowsUptoCardSaid : Prop := Claim7.holds Tryd.pinned (.plain (OpenSpec.upto pidFollowsSpec)) pidFollowsUptoCard

/-- THE SECOND FORM's CARD OF 'plenumlaw20.PidSettles'. -/
def pidSettlesUptoCard : Claim7 := { stood := { row := pidSettlesUptoRow, standIns := [], harness := (true, "e987aa1c0a451a69e0e07c3b5fc1934c55ff03c4be61b2297628606e4a6dcb2f"), looks := false }, kinds := [], alts := [], laidByText := true, laidKinds := [.funcsDeep], laidTests := true, laidLooks := .later }
def PidSettlesUptoCardSaid : Prop := Claim7.holds Tryd.pinned (.plain (OpenSpec.upto pidSettlesSpec)) pidSettlesUptoCard

/-- THE SECOND FORM's CARD OF 'plenumlaw20.PidTracks'. -/
def pidTracksUptoCard : Claim7 := { stood := { row := pidTracksUptoRow, standIns := [], harness := (true, "e987aa1c0a451a69e0e07c3b5fc1934c55ff03c4be61b2297628606e4a6dcb2f"), looks := false }, kinds := [], alts := [], laidByText := true, laidKinds := [.funcsDeep], laidTests := true, laidLooks := .later }
def PidTracksUptoCardSaid : Prop := Claim7.holds Tryd.pinned (.plain (OpenSpec.upto pidTracksSpec)) pidTracksUptoCard
end Rows
end Go.Proofs.YteigdhpchkkloaaDoor
