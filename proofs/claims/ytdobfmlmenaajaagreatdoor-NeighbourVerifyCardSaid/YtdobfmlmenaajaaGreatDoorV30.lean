/-
  Lemmas for NeighbourVerify.
-/
import Derived.Test.YtdobfmlmenaajaaGreatDoorV24
namespace Go.Proofs.YtdobfmlmenaajaaGreatDoor
open Go.RowKit Tryz
set_option maxHeartbeats 6400000
set_option maxRecDepth 4096
set_option linter.all false
def Ua(n:Nat)(H:aH)(k:Nat)(S:St)(x:AV):Prop:=x=aC (n-k) (n-k) (cX H k)∨∃b g,x=.sl 1 b 0 (n-k)/\dZ S b g (n-k) (n-k) (cX H k)
def lq{a b A B:Int}(d:-A<=a/\a<=A)(e:-B<=b/\b<=B):-(A*B)<=a*b/\a*b<=A*B:=by
 have h:(a*b).natAbs<=A.natAbs*B.natAbs:=by rw[cH];exact aV om om
 have c:(A.natAbs:Int)*B.natAbs=A*B:=by rw[show(A.natAbs:Int)=A by omega,show(B.natAbs:Int)=B by omega]
 have f:((A.natAbs*B.natAbs:Nat):Int)=A*B:=by rw[bF,c]
 omega
def Lh(n:Nat)(H:aH):aC n n H=aC (n-0) (n-0) (cX H 0):=by
 simp only[aC,aW,d6,gZ]

end Go.Proofs.YtdobfmlmenaajaaGreatDoor
