/-
  NeighbourForm returns true for every input and leaves its arguments as they are: the row and its tied card. Condition: the listed variable holds what the program lays.
-/
import Derived.Test.YtdobfmlmenaajaaGreatDoorK18
import Derived.Test.YtdobfmlmenaajaaGreatDoorK19
namespace Go.Proofs.YtdobfmlmenaajaaGreatDoor
open _root_.Go.Proofs.Tryz
open _root_.Go.Proofs.Tryz renaming prog→ak
set_option maxHeartbeats 6400000
set_option maxRecDepth 4096
set_option linter.all false
open Go.ChangeShapes Go.WideShapes Go.ChangeAt Go.RowKit
theorem form_holds:Rows.NeighbourFormCardSaid :=
 Claim7.holds_tied_plain_at .later [] [.data] true (true, "bebc60a25c2f619f1e98ead424cab48bf8340b75439e606788c80450339ac87e") false Mx (fun _ h => by cases h) (by kernel_rfl) (fun _ h => by cases h) neighbourForm_row_tie rfl ⟨rfl, rfl⟩ Kw rfl
  (fun f fn hf hfn=>by
   obtain rfl : f = 3 := pP ((show ak.funcNamed "quadform/quadformlaw35.NeighbourForm" = some 3 by kernel_rfl).symm.trans hf) |>.symm
   obtain rfl:fn=Tryz.f3:=(pP (func3.symm.trans hfn)).symm;exact⟨Ho,fun j t ht=>by
    rw[params3]at ht;have hm:t∈[27,28,2,29,4]:=by
     have h:=Array.mem_of_getElem? ht;simp at h ⊢;omega
    have hall:([27,28,2,29,4].all fun u=>!ak.wantsStandIn u)=true:=by kernel_rfl
    exact(show ak.wantsStandIn t=false by simpa using aF.1 hall t hm)⟩)
  Kx

end Go.Proofs.YtdobfmlmenaajaaGreatDoor
