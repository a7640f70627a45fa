-- Words that the kit printed for this seat: those alone that the claim uses.
import Derived.Test.YtacheoimnckghaaKTab
namespace Go.Proofs.YtacheoimnckghaaW.PrintLast
section
variable {P : Program} {ops : Array Oper} {Q : Exit → Act → World → Prop} {md : Region.Mode} {S : World → Prop} {ds : List Nat} {T : Bool × List (List Nat × List Nat)}
end
end Go.Proofs.YtacheoimnckghaaW.PrintLast
