/-
  Lemmas for NeighbourGram.
-/
import Derived.Test.YtdobfmlmenaajaaGreatDoorCards
import Derived.Test.YtdobfmlmenaajaaGreatDoorTie
import Derived.ProofKit
import Derived.JoinedOf
import Derived.Test.YtdobfmlmenaajaaGreatDoorG01
namespace Go.Proofs.YtdobfmlmenaajaaGreatDoor
open _root_.Go.Proofs.Tryz
set_option maxHeartbeats 6400000
set_option maxRecDepth 4096
set_option linter.all false
def J0:(Rows.neighbourGramRow.inPlace==Tryz.pinned.checked.prog.inPlace 7)=true:=by kernel_rfl
def JX:(Rows.neighbourGramRow.unfollowed==Tryz.pinned.checked.prog.unfollowed 7)=true:=by kernel_rfl
def JY:(Rows.neighbourGramRow.recurses==Tryz.pinned.checked.prog.recurses 7)=true:=by kernel_rfl
def JZ:(Rows.neighbourGramRow.named==Tryz.pinned.checked.prog.varsNamed 7)=true:=by kernel_rfl
def EN:joinedFacts Tryz.pinned.checked.prog 7 Tryz.f7 Rows.neighbourGramSpec Rows.neighbourGramRow=true:=by
 unfold joinedFacts;rw[J0,JX,JY,JZ]
 kernel_rfl

end Go.Proofs.YtdobfmlmenaajaaGreatDoor
