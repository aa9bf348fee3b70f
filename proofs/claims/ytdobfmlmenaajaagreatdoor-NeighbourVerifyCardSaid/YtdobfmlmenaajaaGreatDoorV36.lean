/-
  Lemmas for NeighbourVerify.
-/
import Derived.Test.YtdobfmlmenaajaaGreatDoorV35
namespace Go.Proofs.YtdobfmlmenaajaaGreatDoor
open Go.RowKit Tryz
set_option maxHeartbeats 6400000
set_option maxRecDepth 4096
set_option linter.all false
variable{r:XR}
def isT:XR->Bool
 | some (.bool true,_,_)=>true
 | _=>false
def Tt(h:isT r=true):∃nx l,r=some (.bool true,nx,l):=by
 unfold isT at h;split at h
 .exact⟨_,_,rfl⟩
 .cases h
def LG:isT (xu Tu Mu xtbl 60 12 [] 1 Sb)=true:=by kernel_rfl
def Oo:PF 12 [] (.bool true):=by
 obtain⟨nx,l,c⟩:=Tt LG;refine PF.of_spec (E0 Mt Pf 60 12 [] 1 Sb _ c φ0 [] St.none _ (by simp[GP,φ0]) (by simp[fO]) MR.empty fun ψ a S' _ b _=>?_).2
 simp only[ER]at b;subst b;exact VR.mf rfl
def Iz(S:St):cZ 12 [] S (fun r S'=>r=.bool true/\S'=S):=Oo.call ⟨rfl,rfl⟩

end Go.Proofs.YtdobfmlmenaajaaGreatDoor
