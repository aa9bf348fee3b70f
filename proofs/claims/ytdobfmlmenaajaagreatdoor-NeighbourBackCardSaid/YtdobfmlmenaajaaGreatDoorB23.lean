/-
  NeighbourBack returns true for every input and leaves its arguments as they are: the row and its tied card. Condition: the listed variable holds what the program lays.
-/
import Derived.Test.YtdobfmlmenaajaaGreatDoorB21
import Derived.Test.YtdobfmlmenaajaaGreatDoorB22
namespace Go.Proofs.YtdobfmlmenaajaaGreatDoor
open _root_.Go.Proofs.Tryz
open _root_.Go.Proofs.Tryz renaming prog→ak
set_option maxHeartbeats 6400000
set_option maxRecDepth 4096
set_option linter.all false
open Go.ChangeShapes Go.WideShapes Go.ChangeAt Go.RowKit
theorem back_holds:Rows.NeighbourBackCardSaid :=
 Claim7.holds_tied_plain_at .later [] [.data] true (true, "bebc60a25c2f619f1e98ead424cab48bf8340b75439e606788c80450339ac87e") false MU (fun _ h => by cases h) (by kernel_rfl) (fun _ h => by cases h) neighbourBack_row_tie rfl ⟨rfl, rfl⟩ Ku rfl
  (fun f fn hf hfn=>by
   obtain rfl : f = 10 := p9 ((show ak.funcNamed "quadform/quadformlaw35.NeighbourBack" = some 10 by kernel_rfl).symm.trans hf) |>.symm
   obtain rfl:fn=Tryz.f10:=(p9 (func10.symm.trans hfn)).symm;exact⟨Hn,fun j t ht=>by
    rw[params10]at ht;have hm:t∈[27,28,2,29,4]:=by
     have h:=Array.mem_of_getElem? ht;simp at h ⊢;omega
    have hall:([27,28,2,29,4].all fun u=>!ak.wantsStandIn u)=true:=by kernel_rfl
    exact(show ak.wantsStandIn t=false by simpa using aG.1 hall t hm)⟩)
  Kv

end Go.Proofs.YtdobfmlmenaajaaGreatDoor
