/-
  NeighbourIndex returns true for every input and leaves its argument as it is: the row and its tied card. Condition: the listed variable holds what the program lays.
-/
import Derived.Test.YtdobfmlmenaajaaGreatDoorJ23
namespace Go.Proofs.YtdobfmlmenaajaaGreatDoor
open _root_.Go.Proofs.Tryz
open _root_.Option renaming some→ef
open _root_.Go.Proofs.Tryz renaming prog→aj
set_option maxHeartbeats 6400000
set_option maxRecDepth 4096
set_option linter.all false
open Go.ChangeShapes Go.WideShapes Go.ChangeAt Go.RowKit
theorem index_holds:Rows.NeighbourIndexCardSaid :=
 Claim7.holds_tied_plain_at .later [] [.data] true (true, "bebc60a25c2f619f1e98ead424cab48bf8340b75439e606788c80450339ac87e") false Fp (fun _ h => by cases h) (by kernel_rfl) (fun _ h => by cases h) neighbourIndex_row_tie rfl ⟨rfl, rfl⟩ (by kernel_rfl) rfl
  (fun f fn hf hfn=>by
   obtain rfl : f = 8 := ef.inj ((show aj.funcNamed "quadform/quadformlaw35.NeighbourIndex" = some 8 by kernel_rfl).symm.trans hf) |>.symm
   obtain rfl:fn=Tryz.f8:=(ef.inj (func8.symm.trans hfn)).symm;exact⟨by kernel_rfl,fun j t ht=>by
    rw[params8]at ht;have hm:t∈[27]:=by simpa using Array.mem_of_getElem? ht
    have hall:([27].all fun u=>!aj.wantsStandIn u)=true:=by kernel_rfl
    exact(show aj.wantsStandIn t=false by simpa using List.all_eq_true.1 hall t hm)⟩)
  kr
end Go.Proofs.YtdobfmlmenaajaaGreatDoor
