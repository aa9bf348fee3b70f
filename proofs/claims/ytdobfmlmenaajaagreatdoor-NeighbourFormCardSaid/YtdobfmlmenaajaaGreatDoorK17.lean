/-
  Lemmas for NeighbourForm.
-/
import Derived.Test.YtdobfmlmenaajaaGreatDoorCards
import Derived.Test.YtdobfmlmenaajaaGreatDoorTie
import Derived.ProofKit
import Derived.JoinedOf
import Derived.Test.YtdobfmlmenaajaaGreatDoorK01
namespace Go.Proofs.YtdobfmlmenaajaaGreatDoor
open _root_.Go.Proofs.Tryz
set_option maxHeartbeats 6400000
set_option maxRecDepth 4096
set_option linter.all false
def Ks:(Rows.neighbourFormRow.inPlace==Tryz.pinned.checked.prog.inPlace 3)=true:=by kernel_rfl
def Kp:(Rows.neighbourFormRow.unfollowed==Tryz.pinned.checked.prog.unfollowed 3)=true:=by kernel_rfl
def Kq:(Rows.neighbourFormRow.recurses==Tryz.pinned.checked.prog.recurses 3)=true:=by kernel_rfl
def Kr:(Rows.neighbourFormRow.named==Tryz.pinned.checked.prog.varsNamed 3)=true:=by kernel_rfl
def Fn:joinedFacts Tryz.pinned.checked.prog 3 Tryz.f3 Rows.neighbourFormSpec Rows.neighbourFormRow=true:=by
 unfold joinedFacts;rw[Ks,Kp,Kq,Kr]
 kernel_rfl

end Go.Proofs.YtdobfmlmenaajaaGreatDoor
