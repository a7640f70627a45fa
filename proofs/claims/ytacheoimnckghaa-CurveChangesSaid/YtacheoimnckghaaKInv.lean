-- Words that the kit printed for this seat: those alone that the claim uses.
import Derived.Test.YtacheoimnckghaaKTab
namespace Go.Proofs.YtacheoimnckghaaW.PrintLast
section
variable {P : Program} {ops : Array Oper} {Q : Exit → Act → World → Prop} {md : Region.Mode} {T : Bool × List (List Nat × List Nat)} {B : List Nat} {O : List Nat} {b : Nat → Bool} {i j n : Nat}
end
end Go.Proofs.YtacheoimnckghaaW.PrintLast
