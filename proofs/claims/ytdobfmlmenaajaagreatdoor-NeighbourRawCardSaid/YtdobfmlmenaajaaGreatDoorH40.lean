/-
  NeighbourRaw returns true for every input and leaves its arguments as they are: the row and its tied card. Condition: the listed variable holds what the program lays.
-/
import Derived.Test.YtdobfmlmenaajaaGreatDoorH38
import Derived.Test.YtdobfmlmenaajaaGreatDoorH39
namespace Go.Proofs.YtdobfmlmenaajaaGreatDoor
open _root_.Go.Proofs.Tryz
open _root_.Go.Proofs.Tryz renaming prog→ah
set_option maxHeartbeats 6400000
set_option maxRecDepth 4096
set_option linter.all false
open Go.ChangeShapes Go.WideShapes Go.ChangeAt Go.RowKit
theorem raw_holds:Rows.NeighbourRawCardSaid :=
 Claim7.holds_tied_plain_at .later [] [.data] true (true, "bebc60a25c2f619f1e98ead424cab48bf8340b75439e606788c80450339ac87e") false Pq (fun _ h => by cases h) (by kernel_rfl) (fun _ h => by cases h) neighbourRaw_row_tie rfl ⟨rfl, rfl⟩ Lp rfl
  (fun f fn hf hfn=>by
   obtain rfl : f = 5 := kN ((show ah.funcNamed "quadform/quadformlaw35.NeighbourRaw" = some 5 by kernel_rfl).symm.trans hf) |>.symm
   obtain rfl:fn=Tryz.f5:=(kN (func5.symm.trans hfn)).symm;exact⟨Iw,fun j t ht=>by
    rw[params5]at ht;have hm:t∈[27,28,2,29,4]:=by
     have h:=Array.mem_of_getElem? ht;simp at h ⊢;omega
    have hall:([27,28,2,29,4].all fun u=>!ah.wantsStandIn u)=true:=by kernel_rfl
    exact(show ah.wantsStandIn t=false by simpa using aG.1 hall t hm)⟩)
  Lq

end Go.Proofs.YtdobfmlmenaajaaGreatDoor
