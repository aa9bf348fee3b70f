/-
  Lemmas for NeighbourVerify.
-/
import Derived.Test.YtdobfmlmenaajaaGreatDoorV21
namespace Go.Proofs.YtdobfmlmenaajaaGreatDoor
open Go.RowKit Tryz
set_option maxHeartbeats 6400000
set_option maxRecDepth 4096
set_option linter.all false






def JY{a b:Int}(c:0<b):(a/b).natAbs<=a.natAbs:=by
 have f:=oJ a b;have g:=aT a (om:b≠0)
 have i:=aP a c;rcases l9 (a/b) 0 with h|h
 .have d:(a/b)*(b-1)<=0:=CT om om;have e:b*(a/b)=(a/b)*(b-1)+a/b:=by rw[pw,iN,ck];omega
  have j:(a/b+1)*(b-1)<=0:=CT om om;have k:(a/b+1)*(b-1)=(a/b)*(b-1)+(b-1):=by rw[yX,dG]
  omega
 .have d:0<=(a/b)*(b-1):=dr h om;have e:b*(a/b)=(a/b)*(b-1)+a/b:=by rw[pw,iN,ck];omega
  omega



end Go.Proofs.YtdobfmlmenaajaaGreatDoor
