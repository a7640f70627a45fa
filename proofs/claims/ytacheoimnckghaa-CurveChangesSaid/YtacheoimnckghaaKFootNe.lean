-- Words that the kit printed for this seat: those alone that the claim uses.
import Derived.Test.YtacheoimnckghaaKN
namespace Go.Proofs.YtacheoimnckghaaW.PrintWords
open Go.RowKit
namespace Kd
section
variable {α : Type} {d : Kd α} {W : World} {g n : Nat} {S ok : Nat → Prop} {A : Option Addr} {ad : Addr} {xs : List α}
end
end Kd
end Go.Proofs.YtacheoimnckghaaW.PrintWords
