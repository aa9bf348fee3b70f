/-
  Lemmas for NeighbourVerify.
-/
import Derived.Test.YtdobfmlmenaajaaGreatDoorCards
import Derived.Test.YtdobfmlmenaajaaGreatDoorTie
import Derived.ProofKit
import Derived.JoinedOf
import Derived.Test.YtdobfmlmenaajaaGreatDoorV01
namespace Go.Proofs.YtdobfmlmenaajaaGreatDoor
open _root_.Go.Proofs.Tryz
set_option maxHeartbeats 6400000
set_option maxRecDepth 4096
set_option linter.all false
def Lu:(Rows.neighbourVerifyRow.inPlace==Tryz.pinned.checked.prog.inPlace 4)=true:=by kernel_rfl
def Lr:(Rows.neighbourVerifyRow.unfollowed==Tryz.pinned.checked.prog.unfollowed 4)=true:=by kernel_rfl
def Ls:(Rows.neighbourVerifyRow.recurses==Tryz.pinned.checked.prog.recurses 4)=true:=by kernel_rfl
def Lt:(Rows.neighbourVerifyRow.named==Tryz.pinned.checked.prog.varsNamed 4)=true:=by kernel_rfl
def Bn:joinedFacts Tryz.pinned.checked.prog 4 Tryz.f4 Rows.neighbourVerifySpec Rows.neighbourVerifyRow=true:=by
 unfold joinedFacts;rw[Lu,Lr,Ls,Lt]
 kernel_rfl

end Go.Proofs.YtdobfmlmenaajaaGreatDoor
