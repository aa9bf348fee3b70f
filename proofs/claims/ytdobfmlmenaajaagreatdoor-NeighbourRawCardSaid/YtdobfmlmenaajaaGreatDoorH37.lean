/-
  Lemmas for NeighbourRaw.
-/
import Derived.Test.YtdobfmlmenaajaaGreatDoorCards
import Derived.Test.YtdobfmlmenaajaaGreatDoorTie
import Derived.ProofKit
import Derived.JoinedOf
import Derived.Test.YtdobfmlmenaajaaGreatDoorH01
namespace Go.Proofs.YtdobfmlmenaajaaGreatDoor
open _root_.Go.Proofs.Tryz
set_option maxHeartbeats 6400000
set_option maxRecDepth 4096
set_option linter.all false
def Lk:(Rows.neighbourRawRow.inPlace==Tryz.pinned.checked.prog.inPlace 5)=true:=by kernel_rfl
def Lh:(Rows.neighbourRawRow.unfollowed==Tryz.pinned.checked.prog.unfollowed 5)=true:=by kernel_rfl
def Li:(Rows.neighbourRawRow.recurses==Tryz.pinned.checked.prog.recurses 5)=true:=by kernel_rfl
def Lj:(Rows.neighbourRawRow.named==Tryz.pinned.checked.prog.varsNamed 5)=true:=by kernel_rfl
def Hj:joinedFacts Tryz.pinned.checked.prog 5 Tryz.f5 Rows.neighbourRawSpec Rows.neighbourRawRow=true:=by
 unfold joinedFacts;rw[Lk,Lh,Li,Lj]
 kernel_rfl

end Go.Proofs.YtdobfmlmenaajaaGreatDoor
