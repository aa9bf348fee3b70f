/-
  NeighbourMembers returns true for every input and leaves its arguments as they are: the row and its tied card. Condition: the listed variable holds what the program lays.
-/
import Derived.Test.YtdobfmlmenaajaaGreatDoorN38
namespace Go.Proofs.YtdobfmlmenaajaaGreatDoor
open _root_.Option renaming some→dO
set_option maxHeartbeats 6400000
set_option maxRecDepth 4096
set_option linter.all false
open Go.ChangeShapes Go.WideShapes Go.ChangeAt Go.RowKit
theorem members_holds:Rows.NeighbourMembersCardSaid :=
 Claim7.holds_tied_plain_at .later [] [.data] true (true, "bebc60a25c2f619f1e98ead424cab48bf8340b75439e606788c80450339ac87e") false AG (fun _ h => by cases h) (by kernel_rfl) (fun _ h => by cases h) neighbourMembers_row_tie rfl ⟨rfl, rfl⟩ (by kernel_rfl) rfl
  (fun f fn hf hfn=>by
   obtain rfl : f = 9 := dO.inj ((show Tryz.prog.funcNamed "quadform/quadformlaw35.NeighbourMembers" = some 9 by kernel_rfl).symm.trans hf) |>.symm
   obtain rfl:fn=Tryz.f9:=(dO.inj (Tryz.func9.symm.trans hfn)).symm;exact⟨by kernel_rfl,fun j t ht=>by
    rw[Tryz.params9]at ht;have hm:t∈[27,22]:=by simpa using Array.mem_of_getElem? ht
    have hall:([27,22].all fun u=>!Tryz.prog.wantsStandIn u)=true:=by kernel_rfl
    exact(show Tryz.prog.wantsStandIn t=false by simpa using List.all_eq_true.1 hall t hm)⟩)
  (by kernel_rfl)
end Go.Proofs.YtdobfmlmenaajaaGreatDoor
