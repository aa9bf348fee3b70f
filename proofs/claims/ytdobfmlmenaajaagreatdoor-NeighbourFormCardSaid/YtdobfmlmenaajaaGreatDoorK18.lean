/-
  Lemmas for NeighbourForm.
-/
import Derived.Test.YtdobfmlmenaajaaGreatDoorK16
import Derived.Test.YtdobfmlmenaajaaGreatDoorK17
namespace Go.Proofs.YtdobfmlmenaajaaGreatDoor
open _root_.Go.Proofs.Tryz
set_option maxHeartbeats 6400000
set_option maxRecDepth 4096
set_option linter.all false
open Go.ChangeShapes Go.WideShapes Go.ChangeAt Go.RowKit
def Mx:Rows.NeighbourFormSaid :=
 OpenClaim.holds_of_wide 3 Tryz.f3 rfl rfl rfl rfl rfl rfl rfl ⟨rfl,rfl,rfl,rfl,rfl⟩ rfl rfl rfl rfl rfl kr func3 Fn
  (jJ kr) (by unfold Func.isWrapper;first|(rw[aj (by decide +kernel)];kernel_rfl)|(rw[ah (by decide +kernel)];exact⟨rfl,rfl⟩))
  (fun os started H enc _=>Rc os started H enc)

end Go.Proofs.YtdobfmlmenaajaaGreatDoor
