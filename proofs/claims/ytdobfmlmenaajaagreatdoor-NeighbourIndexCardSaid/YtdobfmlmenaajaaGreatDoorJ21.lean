/-
  Lemmas for NeighbourIndex.
-/
import Derived.Test.YtdobfmlmenaajaaGreatDoorJ20
namespace Go.Proofs.YtdobfmlmenaajaaGreatDoor
open Go.RowKit Tryz
set_option maxHeartbeats 6400000
set_option maxRecDepth 4096
set_option linter.all false
def isT:XR->Bool
 | some (.bool true,_,_)=>true
 | _=>false
theorem LT{r:XR}(h:isT r=true):∃nx l,r=some (.bool true,nx,l):=by
 unfold isT at h;split at h
 ·exact⟨_,_,rfl⟩
 ·cases h
theorem FD:isT (tg LU Gn xtbl 60 12 [] 1 K0)=true:=by kernel_rfl
theorem Ic:PF 12 [] (.bool true):=by
 obtain⟨nx,l,hx⟩:=LT FD;refine PF.of_spec (AZ Gm IM 60 12 [] 1 K0 _ hx φ0 [] St.none _ (by simp[GP,φ0]) (by simp[eD]) MR.empty fun ψ a S' _ h4 _=>?_).2
 simp only[ER]at h4;subst h4;exact VR.mf rfl
theorem Ds(S:St):cS 12 [] S (fun r S'=>r=.bool true/\S'=S):=Ic.call ⟨rfl,rfl⟩
end Go.Proofs.YtdobfmlmenaajaaGreatDoor
