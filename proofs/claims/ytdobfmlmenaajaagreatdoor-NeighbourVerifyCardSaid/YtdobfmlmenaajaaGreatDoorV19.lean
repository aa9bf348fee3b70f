/-
  Lemmas for NeighbourVerify.
-/
import Derived.Test.YtdobfmlmenaajaaGreatDoorV18
namespace Go.Proofs.YtdobfmlmenaajaaGreatDoor
open Go.RowKit Tryz
set_option maxHeartbeats 6400000
set_option maxRecDepth 4096
set_option linter.all false
variable{q z:Int}{a b i j n p:Nat}{f:Nat->Int}{S:St}{A:aH}
def vZ(b:j≠i)(k:j<n)(l:a<n):aq n (fun c=>eQ kR j i q c a*f c)=f a+(if a=i then q*f j else 0):=by
 have e:aq n (fun c=>eQ kR j i q c a*f c)=aq n (fun c=>kR c a*f c+(if c=j then(if a=i then q*f j else 0)else 0)):=aB fun c _=>by
  simp only[eQ,kR];by_cases g:c=j
  .subst g;by_cases h:a=i
   .subst h;simp[b]
   .simp[h]
  .simp[g]
 rw[e,eE,cJ a l (fun c _ d=>by simp[kR,d]),cJ j k (fun c _ d=>by simp[d])]
 simp[kR]
def vY(i:0<p)(d:p<n)(j:a<n):aq n (fun c=>kR (dX (p-1) p c) a*f c)=f (dX (p-1) p a):=by
 have g:dX (p-1) p a<n:=by unfold dX;split<;>(try split)<;>omega
 have b:dX (p-1) p (dX (p-1) p a)=a:=by unfold dX;grind
 rw[cJ (dX (p-1) p a) g (fun c _ h=>?_)]
 .simp[kR,b]
 .have:dX (p-1) p c≠a:=fun e=>h (by rw[<-e];unfold dX;grind)
  simp[kR,this]
def Is(d:j<i)(r:i<n)(e:a<n)(g:b<n):kB n (kB n (fun p c=>eQ kR j i q c p) A) (eQ kR j i q) a b=mA A i j q a b:=by
 have h:∀c,c<n->kB n (fun p c=>eQ kR j i q c p) A a c=A a c+(if a=i then q*A j c else 0):=fun c _=>vZ (f:=fun t=>A t c) om om e
 have k:kB n (kB n (fun p c=>eQ kR j i q c p) A) (eQ kR j i q) a b=aq n (fun c=>eQ kR j i q c b*(A a c+(if a=i then q*A j c else 0))):=aB fun c l=>by rw[h c l,ck]
 rw[k,vZ (f:=fun c=>A a c+(if a=i then q*A j c else 0)) om om g]
 simp only[mA];by_cases m:a=i<;>by_cases o:b=i<;>simp[m,o]<;>grind
def Ir(e:0<p)(d:p<n)(g:a<n)(h:b<n):kB n (kB n (fun x c=>kR (dX (p-1) p c) x) A) (fun a b=>kR (dX (p-1) p a) b) a b=EH A p a b:=by
 have i:∀c,c<n->kB n (fun x c=>kR (dX (p-1) p c) x) A a c=A (dX (p-1) p a) c:=fun c _=>vY (f:=fun t=>A t c) e d g;have j:kB n (kB n (fun x c=>kR (dX (p-1) p c) x) A) (fun a b=>kR (dX (p-1) p a) b) a b=aq n (fun c=>kR (dX (p-1) p c) b*A (dX (p-1) p a) c):=aB fun c k=>by rw[i c k,ck]
 rw[j,vY (f:=fun c=>A (dX (p-1) p a) c) e d h];rfl
def matOf(x:AV):aH:=fun i j=>match x with
 | .lst _ _ g=>(match g i with
  | .lst _ _ h=>(match h j with
   | .big z=>z
   | _=>0)
  | _=>0)
 | _=>0
def place30(a:n<=5):lP A n<=30:=by
 have b:=zV A n;have c:n*(n+1)<=5*6:=aV a om;omega
def VR.tup3{x y z x' y' z':AV}(c:VR S x x')(d:VR S y y')(f:VR S z z'):VR S (.tup [x,y,z]) (.tup [x',y',z']):=by
 intro w v a b;simp only[bM]at b ⊢;obtain⟨vs,e,h⟩:=b;refine⟨vs,e,?_⟩
 match vs,h with
 | [u,v,t],h=>simp only[a6]at h ⊢;exact⟨c w u a h.1,d w v a h.2.1,f w t a h.2.2.1,trivial⟩
 | [],h=>simp[a6]at h
 | [_],h=>simp[a6]at h
 | [_,_],h=>simp[a6]at h
 | _::_::_::_::_,h=>simp[a6]at h
def NP(a b k:Nat)(c:1<=k):nb (kR a b) k:=by
 unfold kR;split
 .exact nb.one c
 .exact nb.zero k
def Qm(h:(z.natAbs:Int)<=118098):iT z:=by unfold iT;omega

end Go.Proofs.YtdobfmlmenaajaaGreatDoor
