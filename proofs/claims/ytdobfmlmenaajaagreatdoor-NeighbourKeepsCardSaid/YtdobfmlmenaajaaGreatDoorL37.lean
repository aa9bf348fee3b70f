/-
NeighbourKeeps returns true for every input and leaves its argument as it is: the tied card. Condition: the listed variable holds what the program lays.
-/
import Derived.Test.YtdobfmlmenaajaaGreatDoorL36
namespace Go.Proofs.YtdobfmlmenaajaaGreatDoor
open _root_.Go.Proofs.Tryz
open _root_.Option renaming some→eL
open _root_.Go.Proofs.Tryz renaming prog→ah
set_option maxHeartbeats 6400000
set_option maxRecDepth 4096
set_option linter.all false
open Go.ChangeShapes Go.WideShapes Go.ChangeAt Go.RowKit
theorem keeps_holds:Rows.NeighbourKeepsCardSaid:=
 Claim7.holds_tied_plain_at .later [] [.data] true (true, "bebc60a25c2f619f1e98ead424cab48bf8340b75439e606788c80450339ac87e") false F8 (fun _ h => by cases h) (by kernel_rfl) (fun _ h => by cases h) neighbourKeeps_row_tie rfl ⟨rfl, rfl⟩ (by kernel_rfl) rfl
  (fun f fn hf hfn=>by
   obtain rfl:f=6:=eL.inj ((show ah.funcNamed "quadform/quadformlaw35.NeighbourKeeps" = some 6 by kernel_rfl).symm.trans hf)|>.symm
   obtain rfl:fn=Tryz.f6:=(eL.inj (func6.symm.trans hfn)).symm;exact⟨by kernel_rfl,fun j t ht=>by
    rw[params6]at ht;have hm:t∈[27]:=by simpa using Array.mem_of_getElem? ht
    have hall:([27].all fun u=>!ah.wantsStandIn u)=true:=by kernel_rfl
    exact(show ah.wantsStandIn t=false by simpa using List.all_eq_true.1 hall t hm)⟩)
  kr
end Go.Proofs.YtdobfmlmenaajaaGreatDoor
