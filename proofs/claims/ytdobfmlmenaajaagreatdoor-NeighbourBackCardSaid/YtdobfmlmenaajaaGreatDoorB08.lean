/-
  Lemmas for NeighbourBack.
-/
import Derived.Test.YtdobfmlmenaajaaGreatDoorB07
namespace Go.Proofs.YtdobfmlmenaajaaGreatDoor
open Go.RowKit Tryz
set_option maxHeartbeats 6400000
set_option maxRecDepth 4096
set_option linter.all false






def DH{a b:Int}(c:0<b):(a/b).natAbs<=a.natAbs:=by
 have f:=oA a b;have g:=aW a (om:b≠0)
 have i:=aS a c;rcases jo (a/b) 0 with h|h
 .have d:(a/b)*(b-1)<=0:=CL om om;have e:b*(a/b)=(a/b)*(b-1)+a/b:=by rw[mT,iw,bU];omega
  have j:(a/b+1)*(b-1)<=0:=CL om om;have k:(a/b+1)*(b-1)=(a/b)*(b-1)+(b-1):=by rw[sG,cU]
  omega
 .have d:0<=(a/b)*(b-1):=cC h om;have e:b*(a/b)=(a/b)*(b-1)+a/b:=by rw[mT,iw,bU];omega
  omega



end Go.Proofs.YtdobfmlmenaajaaGreatDoor
