/-
  DERIVED. GIVEN WITH THE SEED: THE CARDS: each row of YtbfcplnaafnlhaaDoorRows.lean that lists a variable, with what it lists TIED to the program's text (the seventh form; the later family's looks); each row that meets fmt, with fmt's text TOLD by the authors' own Lean function (tested against real Go, not proved from fmt's source: count such statements apart). THE CARD IS WHAT COUNTS. Prove the row's statement (the work); the ties are given (YtbfcplnaafnlhaaDoorTie.lean); close each card by the builder's one call (the guide's Derived/Test/ToyasCard.lean, 'card_holds'). Laid BY PROGRAM, IN A SANDBOX (cutbox-door.mjs). By AI agents, Wed Nov 11 2026. No macro, syntax, notation, axiom, sorry.
-/
import Derived.Test.YtbfcplnaafnlhaaDoorRows
import GoSem.ClaimSeven
namespace Go.Proofs.YtbfcplnaafnlhaaDoor
namespace Rows

/-- THE TIED CARD OF 'plenumlaw22.PsychroMixes'. -/
def psychroMixesCard : Claim7 := { stood := { row := psychroMixesRow, standIns := [], harness := (true, "cb0af1da307c0cd4f5d78f1012f07e0c45ed074bfbe3bfdb1913d85453e8fcfd"), looks := false }, kinds := [], alts := [], laidByText := true, laidKinds := [.data], laidTests := true, laidLooks := .later }
def PsychroMixesCardSaid : Prop := Claim7.holds Tryd.pinned (.plain (OpenSpec.ofChange psychroMixesSpec)) psychroMixesCard

/-- THE TIED CARD OF 'plenumlaw22.PsychroDew'. -/
def psychroDewCard : Claim7 := { stood := { row := psychroDewRow, standIns := [], harness := (true, "cb0af1da307c0cd4f5d78f1012f07e0c45ed074bfbe3bfdb1913d85453e8fcfd"), looks := false }, kinds := [], alts := [], laidByText := true, laidKinds := [.data], laidTests := true, laidLooks := .later }
def PsychroDewCardSaid : Prop := Claim7.holds Tryd.pinned (.plain (OpenSpec.ofChange psychroDewSpec)) psychroDewCard

/-- THE TIED CARD OF 'plenumlaw22.PsychroAir'. -/
def psychroAirCard : Claim7 := { stood := { row := psychroAirRow, standIns := [], harness := (true, "cb0af1da307c0cd4f5d78f1012f07e0c45ed074bfbe3bfdb1913d85453e8fcfd"), looks := false }, kinds := [], alts := [], laidByText := true, laidKinds := [.data], laidTests := true, laidLooks := .later }
def PsychroAirCardSaid : Prop := Claim7.holds Tryd.pinned (.plain (OpenSpec.ofChange psychroAirSpec)) psychroAirCard

/-- THE TIED CARD OF 'plenumlaw22.PsychroMonotone'. -/
def psychroMonotoneCard : Claim7 := { stood := { row := psychroMonotoneRow, standIns := [], harness := (true, "cb0af1da307c0cd4f5d78f1012f07e0c45ed074bfbe3bfdb1913d85453e8fcfd"), looks := false }, kinds := [], alts := [], laidByText := true, laidKinds := [.data], laidTests := true, laidLooks := .later }
def PsychroMonotoneCardSaid : Prop := Claim7.holds Tryd.pinned (.plain (OpenSpec.ofChange psychroMonotoneSpec)) psychroMonotoneCard

/-- THE TIED CARD OF 'plenumlaw22.PsychroInverse'. -/
def psychroInverseCard : Claim7 := { stood := { row := psychroInverseRow, standIns := [], harness := (true, "cb0af1da307c0cd4f5d78f1012f07e0c45ed074bfbe3bfdb1913d85453e8fcfd"), looks := false }, kinds := [], alts := [], laidByText := true, laidKinds := [.data], laidTests := true, laidLooks := .later }
def PsychroInverseCardSaid : Prop := Claim7.holds Tryd.pinned (.plain (OpenSpec.ofChange psychroInverseSpec)) psychroInverseCard

/-- THE TIED CARD OF 'plenumlaw22.PsychroHeat'. -/
def psychroHeatCard : Claim7 := { stood := { row := psychroHeatRow, standIns := [], harness := (true, "cb0af1da307c0cd4f5d78f1012f07e0c45ed074bfbe3bfdb1913d85453e8fcfd"), looks := false }, kinds := [], alts := [], laidByText := true, laidKinds := [.data], laidTests := true, laidLooks := .later }
def PsychroHeatCardSaid : Prop := Claim7.holds Tryd.pinned (.plain (OpenSpec.ofChange psychroHeatSpec)) psychroHeatCard

/-- THE TIED CARD OF 'plenumlaw22.PsychroEvals'. -/
def psychroEvalsCard : Claim7 := { stood := { row := psychroEvalsRow, standIns := [], harness := (true, "cb0af1da307c0cd4f5d78f1012f07e0c45ed074bfbe3bfdb1913d85453e8fcfd"), looks := false }, kinds := [], alts := [], laidByText := true, laidKinds := [.data], laidTests := true, laidLooks := .later }
def PsychroEvalsCardSaid : Prop := Claim7.holds Tryd.pinned (.plain (OpenSpec.ofChange psychroEvalsSpec)) psychroEvalsCard

/-- THE SECOND FORM's CARD OF 'plenumlaw22.PsychroMixes'. -/
def psychroMixesUptoCard : Claim7 := { stood := { row := psychroMixesUptoRow, standIns := [], harness := (true, "cb0af1da307c0cd4f5d78f1012f07e0c45ed074bfbe3bfdb1913d85453e8fcfd"), looks := false }, kinds := [], alts := [], laidByText := true, laidKinds := [.data], laidTests := true, laidLooks := .later }
def PsychroMixesUptoCardSaid : Prop := Claim7.holds Tryd.pinned (.plain (OpenSpec.upto psychroMixesSpec)) psychroMixesUptoCard

/-- THE SECOND FORM's CARD OF 'plenumlaw22.PsychroDew'. -/
def psychroDewUptoCard : Claim7 := { stood := { row := psychroDewUptoRow, standIns := [], harness := (true, "cb0af1da307c0cd4f5d78f1012f07e0c45ed074bfbe3bfdb1913d85453e8fcfd"), looks := false }, kinds := [], alts := [], laidByText := true, laidKinds := [.data], laidTests := true, laidLooks := .later }
def PsychroDewUptoCardSaid : Prop := Claim7.holds Tryd.pinned (.plain (OpenSpec.upto psychroDewSpec)) psychroDewUptoCard

/-- THE SECOND FORM's CARD OF 'plenumlaw22.PsychroAir'. -/
def psychroAirUptoCard : Claim7 := { stood := { row := psychroAirUptoRow, standIns := [], harness := (true, "cb0af1da307c0cd4f5d78f1012f07e0c45ed074bfbe3bfdb1913d85453e8fcfd"), looks := false }, kinds := [], alts := [], laidByText := true, laidKinds := [.data], laidTests := true, laidLooks := .later }
def PsychroAirUptoCardSaid : Prop := Claim7.holds Tryd.pinned (.plain (OpenSpec.upto psychroAirSpec)) psychroAirUptoCard

/-- THE SECOND FORM's CARD OF 'plenumlaw22.PsychroMonotone'. -/
def psychroMonotoneUptoCard : Claim7 := { stood := { row := psychroMonotoneUptoRow, standIns := [], harness := (true, "cb0af1da307c0cd4f5d78f1012f07e0c45ed074bfbe3bfdb1913d85453e8fcfd"), looks := false }, kinds := [], alts := [], laidByText := true, laidKinds := [.data], laidTests := true, laidLooks := .later }
def PsychroMonotoneUptoCardSaid : Prop := Claim7.holds Tryd.pinned (.plain (OpenSpec.upto psychroMonotoneSpec)) psychroMonotoneUptoCard

/-- THE SECOND FORM's CARD OF 'plenumlaw22.PsychroInverse'. -/
def psychroInverseUptoCard : Claim7 := { stood := { row := psychroInverseUptoRow, standIns := [], harness := (true, "cb0af1da307c0cd4f5d78f1012f07e0c45ed074bfbe3bfdb1913d85453e8fcfd"), looks := false }, kinds := [], alts := [], laidByText := true, laidKinds := [.data], laidTests := true, laidLooks := .later }
def PsychroInverseUptoCardSaid : Prop := Claim7.holds Tryd.pinned (.plain (OpenSpec.upto psychroInverseSpec)) psychroInverseUptoCard

/-- THE SECOND FORM's CARD OF 'plenumlaw22.PsychroHeat'. -/
def psychroHeatUptoCard : Claim7 := { stood := { row := psychroHeatUptoRow, standIns := [], harness := (true, "cb0af1da307c0cd4f5d78f1012f07e0c45ed074bfbe3bfdb1913d85453e8fcfd"), looks := false }, kinds := [], alts := [], laidByText := true, laidKinds := [.data], laidTests := true, laidLooks := .later }
def PsychroHeatUptoCardSaid : Prop := Claim7.holds Tryd.pinned (.plain (OpenSpec.upto psychroHeatSpec)) psychroHeatUptoCard

/-- THE SECOND FORM's CARD OF 'plenumlaw22.PsychroEvals'. -/
def psychroEvalsUptoCard : Claim7 := { stood := { row := psychroEvalsUptoRow, standIns := [], harness := (true, "cb0af1da307c0cd4f5d78f1012f07e0c45ed074bfbe3bfdb1913d85453e8fcfd"), looks := false }, kinds := [], alts := [], laidByText := true, laidKinds := [.data], laidTests := true, laidLooks := .later }
def PsychroEvalsUptoCardSaid : Prop := Claim7.holds Tryd.pinned (.plain (OpenSpec.upto psychroEvalsSpec)) psychroEvalsUptoCard
end Rows
end Go.Proofs.YtbfcplnaafnlhaaDoor
