/-
  Lemmas for NeighbourMembers.
-/
import Derived.Test.YtdobfmlmenaajaaGreatDoorN35
namespace Go.Proofs.YtdobfmlmenaajaaGreatDoor
open Go.RowKit
set_option maxHeartbeats 6400000
set_option maxRecDepth 4096
set_option linter.all false
def isT:XR->Bool
 | some (.bool true,_,_)=>true
 | _=>false
theorem KR{r:XR}(h:isT r=true):∃nx l,r=some (.bool true,nx,l):=by
 unfold isT at h;split at h
 ·exact⟨_,_,rfl⟩
 ·cases h
theorem EJ:isT (sj KT FA xtbl 60 12 [] 1 J6)=true:=by kernel_rfl
theorem GW:PF 12 [] (.bool true):=by
 obtain⟨nx,l,hx⟩:=KR EJ;refine PF.of_spec (Ab Fz HW 60 12 [] 1 J6 _ hx φ0 [] St.none _ (by simp[GP,φ0]) (by simp[dZ]) MR.empty fun ψ a S' _ h4 _=>?_).2
 simp only[ER]at h4;subst h4;exact VR.mf rfl
theorem CD(S:St):cM 12 [] S (fun r S'=>r=.bool true/\S'=S):=GW.call ⟨rfl,rfl⟩
end Go.Proofs.YtdobfmlmenaajaaGreatDoor
