/-
  Lemmas for NeighbourGram.
-/
import Derived.Test.YtdobfmlmenaajaaGreatDoorG32
namespace Go.Proofs.YtdobfmlmenaajaaGreatDoor
open Go.RowKit Tryz
set_option maxHeartbeats 6400000
set_option maxRecDepth 4096
set_option linter.all false
variable{r:XR}
def isT:XR->Bool
 | some (.bool true,_,_)=>true
 | _=>false
def Ru(h:isT r=true):∃nx l,r=some (.bool true,nx,l):=by
 unfold isT at h;split at h
 .exact⟨_,_,rfl⟩
 .cases h
def J8:isT (vR Rv K7 xtbl 60 12 [] 1 Qk)=true:=by kernel_rfl
def MO:PF 12 [] (.bool true):=by
 obtain⟨nx,l,c⟩:=Ru J8;refine PF.of_spec (D0 K6 NI 60 12 [] 1 Qk _ c φ0 [] St.none _ (by simp[GP,φ0]) (by simp[eZ]) MR.empty fun ψ a S' _ b _=>?_).2
 simp only[ER]at b;subst b;exact VR.mf rfl
def GX(S:St):cE 12 [] S (fun r S'=>r=.bool true/\S'=S):=MO.call ⟨rfl,rfl⟩

end Go.Proofs.YtdobfmlmenaajaaGreatDoor
