/-
  Lemmas for NeighbourBack.
-/
import Derived.Test.YtdobfmlmenaajaaGreatDoorB19
import Derived.Test.YtdobfmlmenaajaaGreatDoorB20
namespace Go.Proofs.YtdobfmlmenaajaaGreatDoor
open _root_.Go.Proofs.Tryz
set_option maxHeartbeats 6400000
set_option maxRecDepth 4096
set_option linter.all false
open Go.ChangeShapes Go.WideShapes Go.ChangeAt Go.RowKit
def MU:Rows.NeighbourBackSaid :=
 OpenClaim.holds_of_wide 10 Tryz.f10 rfl rfl rfl rfl rfl rfl rfl ⟨rfl,rfl,rfl,rfl,rfl⟩ rfl rfl rfl rfl rfl kr func10 FL
  (jJ kr) (by unfold Func.isWrapper;first|(rw[aj (by decide +kernel)];kernel_rfl)|(rw[ah (by decide +kernel)];exact⟨rfl,rfl⟩))
  (fun os started H enc _=>Rg os started H enc)

end Go.Proofs.YtdobfmlmenaajaaGreatDoor
