/-
  Lemmas for NeighbourBack.
-/
import Derived.Test.YtdobfmlmenaajaaGreatDoorB09
namespace Go.Proofs.YtdobfmlmenaajaaGreatDoor
open Go.RowKit Tryz
set_option maxHeartbeats 6400000
set_option maxRecDepth 4096
set_option linter.all false


end Go.Proofs.YtdobfmlmenaajaaGreatDoor
