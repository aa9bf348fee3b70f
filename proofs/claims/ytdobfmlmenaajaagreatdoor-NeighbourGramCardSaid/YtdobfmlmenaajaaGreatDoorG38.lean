/-
  NeighbourGram returns true for every input and leaves its arguments as they are: the row and its tied card. Condition: the listed variable holds what the program lays.
-/
import Derived.Test.YtdobfmlmenaajaaGreatDoorG36
import Derived.Test.YtdobfmlmenaajaaGreatDoorG37
namespace Go.Proofs.YtdobfmlmenaajaaGreatDoor
open _root_.Go.Proofs.Tryz
open _root_.Go.Proofs.Tryz renaming prog→ah
set_option maxHeartbeats 6400000
set_option maxRecDepth 4096
set_option linter.all false
open Go.ChangeShapes Go.WideShapes Go.ChangeAt Go.RowKit
theorem gram_holds:Rows.NeighbourGramCardSaid :=
 Claim7.holds_tied_plain_at .later [] [.data] true (true, "bebc60a25c2f619f1e98ead424cab48bf8340b75439e606788c80450339ac87e") false Mn (fun _ h => by cases h) (by kernel_rfl) (fun _ h => by cases h) neighbourGram_row_tie rfl ⟨rfl, rfl⟩ J4 rfl
  (fun f fn hf hfn=>by
   obtain rfl : f = 7 := ku ((show ah.funcNamed "quadform/quadformlaw35.NeighbourGram" = some 7 by kernel_rfl).symm.trans hf) |>.symm
   obtain rfl:fn=Tryz.f7:=(ku (func7.symm.trans hfn)).symm;exact⟨GU,fun j t ht=>by
    rw[params7]at ht;have hm:t∈[27,28,2,29,4]:=by
     have h:=Array.mem_of_getElem? ht;simp at h ⊢;omega
    have hall:([27,28,2,29,4].all fun u=>!ah.wantsStandIn u)=true:=by kernel_rfl
    exact(show ah.wantsStandIn t=false by simpa using aE.1 hall t hm)⟩)
  J5

end Go.Proofs.YtdobfmlmenaajaaGreatDoor
