/-
  NeighbourVerify returns true for every input and leaves its arguments as they are: the row and its tied card. Condition: the listed variable holds what the program lays.
-/
import Derived.Test.YtdobfmlmenaajaaGreatDoorV39
import Derived.Test.YtdobfmlmenaajaaGreatDoorV40
namespace Go.Proofs.YtdobfmlmenaajaaGreatDoor
open _root_.Go.Proofs.Tryz
open _root_.Go.Proofs.Tryz renaming prog→ai
set_option maxHeartbeats 6400000
set_option maxRecDepth 4096
set_option linter.all false
open Go.ChangeShapes Go.WideShapes Go.ChangeAt Go.RowKit
theorem verify_holds:Rows.NeighbourVerifyCardSaid :=
 Claim7.holds_tied_plain_at .later [] [.data] true (true, "bebc60a25c2f619f1e98ead424cab48bf8340b75439e606788c80450339ac87e") false G3 (fun _ h => by cases h) (by kernel_rfl) (fun _ h => by cases h) neighbourVerify_row_tie rfl ⟨rfl, rfl⟩ Ly rfl
  (fun f fn hf hfn=>by
   obtain rfl : f = 4 := jS ((show ai.funcNamed "quadform/quadformlaw35.NeighbourVerify" = some 4 by kernel_rfl).symm.trans hf) |>.symm
   obtain rfl:fn=Tryz.f4:=(jS (Vs.symm.trans hfn)).symm;exact⟨Iu,fun j t ht=>by
    rw[params4]at ht;have hm:t∈[27,5,41]:=by
     have h:=Array.mem_of_getElem? ht;simp at h ⊢;omega
    have hall:([27,5,41].all fun u=>!ai.wantsStandIn u)=true:=by kernel_rfl
    exact(show ai.wantsStandIn t=false by simpa using aE.1 hall t hm)⟩)
  Lz

end Go.Proofs.YtdobfmlmenaajaaGreatDoor
