/-
  Lemmas for NeighbourBack.
-/
import Derived.Test.YtdobfmlmenaajaaGreatDoorCards
import Derived.Test.YtdobfmlmenaajaaGreatDoorTie
import Derived.ProofKit
import Derived.SevenTiedAt
import Derived.Test.YtdobfmlmenaajaaGreatDoorB01
namespace Go.Proofs.YtdobfmlmenaajaaGreatDoor
open _root_.Go.Proofs.Tryz
set_option maxHeartbeats 6400000
set_option maxRecDepth 4096
set_option linter.all false
def Kv:false=Rows.neighbourBackRow.goesBy Tryz.pinned.checked.prog:=by kernel_rfl
def Hn:false=Tryz.pinned.checked.prog.looks []:=by kernel_rfl
def Ku : Tryz.pinned.checked.prog.mainIs = some ((true, "bebc60a25c2f619f1e98ead424cab48bf8340b75439e606788c80450339ac87e").1, ((true, "bebc60a25c2f619f1e98ead424cab48bf8340b75439e606788c80450339ac87e") : Bool × String).2.toList) := by kernel_rfl

end Go.Proofs.YtdobfmlmenaajaaGreatDoor
