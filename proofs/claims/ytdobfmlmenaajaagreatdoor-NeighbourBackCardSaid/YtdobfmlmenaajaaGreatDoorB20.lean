/-
  Lemmas for NeighbourBack.
-/
import Derived.Test.YtdobfmlmenaajaaGreatDoorCards
import Derived.Test.YtdobfmlmenaajaaGreatDoorTie
import Derived.ProofKit
import Derived.JoinedOf
import Derived.Test.YtdobfmlmenaajaaGreatDoorB01
namespace Go.Proofs.YtdobfmlmenaajaaGreatDoor
open _root_.Go.Proofs.Tryz
set_option maxHeartbeats 6400000
set_option maxRecDepth 4096
set_option linter.all false
def Kq:(Rows.neighbourBackRow.inPlace==Tryz.pinned.checked.prog.inPlace 10)=true:=by kernel_rfl
def Km:(Rows.neighbourBackRow.unfollowed==Tryz.pinned.checked.prog.unfollowed 10)=true:=by kernel_rfl
def Ko:(Rows.neighbourBackRow.recurses==Tryz.pinned.checked.prog.recurses 10)=true:=by kernel_rfl
def Kp:(Rows.neighbourBackRow.named==Tryz.pinned.checked.prog.varsNamed 10)=true:=by kernel_rfl
def FL:joinedFacts Tryz.pinned.checked.prog 10 Tryz.f10 Rows.neighbourBackSpec Rows.neighbourBackRow=true:=by
 unfold joinedFacts;rw[Kq,Km,Ko,Kp]
 kernel_rfl

end Go.Proofs.YtdobfmlmenaajaaGreatDoor
