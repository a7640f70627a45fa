-- Words that the kit printed for this seat: those alone that the claim uses.
import Derived.Test.YtacheoimnckghaaKInv
import Derived.Test.YtacheoimnckghaaKFootNe
namespace Go.Proofs.YtacheoimnckghaaW.PrintWords
open Go.RowKit
end Go.Proofs.YtacheoimnckghaaW.PrintWords
namespace Go.Proofs.YtacheoimnckghaaW.PrintLast
section
variable {ops : Array Oper} {a : Act} {o og : Oper} {g : Nat} {t : Tmp} {u : Bool}
end
end Go.Proofs.YtacheoimnckghaaW.PrintLast
