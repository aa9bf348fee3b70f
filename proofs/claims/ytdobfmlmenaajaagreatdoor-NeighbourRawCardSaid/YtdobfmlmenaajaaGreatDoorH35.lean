/-
  Lemmas for NeighbourRaw.
-/
import Derived.Test.YtdobfmlmenaajaaGreatDoorH34
namespace Go.Proofs.YtdobfmlmenaajaaGreatDoor
open Go.RowKit Tryz
set_option maxHeartbeats 6400000
set_option maxRecDepth 4096
set_option linter.all false
variable{r:XR}
def isT:XR->Bool
 | some (.bool true,_,_)=>true
 | _=>false
def SX(h:isT r=true):∃nx l,r=some (.bool true,nx,l):=by
 unfold isT at h;split at h
 .exact⟨_,_,rfl⟩
 .cases h
def Lu:isT (xa SY Mk xtbl 60 12 [] 1 RH)=true:=by kernel_rfl
def N1:PF 12 [] (.bool true):=by
 obtain⟨nx,l,c⟩:=SX Lu;refine PF.of_spec (E4 Mj OU 60 12 [] 1 RH _ c φ0 [] St.none _ (by simp[GP,φ0]) (by simp[fD]) MR.empty fun ψ a S' _ b _=>?_).2
 simp only[ER]at b;subst b;exact VR.mf rfl
def Iz(S:St):cP 12 [] S (fun r S'=>r=.bool true/\S'=S):=N1.call ⟨rfl,rfl⟩

end Go.Proofs.YtdobfmlmenaajaaGreatDoor
