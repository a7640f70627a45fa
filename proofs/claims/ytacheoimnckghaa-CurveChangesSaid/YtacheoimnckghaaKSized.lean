-- Words that the kit printed for this seat: those alone that the claim uses.
import Derived.SizedLaws
import Derived.ChangeSlices
namespace Go.Proofs.YtacheoimnckghaaW.PrintWords
open Go.ChangeShapes Go.WideShapes
end Go.Proofs.YtacheoimnckghaaW.PrintWords
