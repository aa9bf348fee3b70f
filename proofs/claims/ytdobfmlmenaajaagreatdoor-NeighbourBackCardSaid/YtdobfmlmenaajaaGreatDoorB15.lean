/-
  Lemmas for NeighbourBack.
-/
import Derived.Test.YtdobfmlmenaajaaGreatDoorB14
namespace Go.Proofs.YtdobfmlmenaajaaGreatDoor
open Go.RowKit Tryz
set_option maxHeartbeats 6400000
set_option maxRecDepth 4096
set_option linter.all false
variable{z:AV}{l l':List AV}{f n:Nat}{v:Nat->Nat}{A W:az}


def wH(a:∀i j,i<n->j<n->A i j=A j i)(i j:Nat):pF n A (fun i r=>W r i) i j=jm n A (fun r=>W r i) (fun r=>W r j):=by
 rw[jl a];unfold pF jm;exact ay fun k _=>bU _ _
def Kb(a:∀i j,i<n->j<n->A i j=A j i)(i j:Nat):rt n A (fun i r=>W r i) i j=jm n A (fun r=>W r i) (fun r=>W r j):=by
 unfold rt;split
 .exact wH a i j
 .rw[wH a,jl a]
def MO(i j:Nat):mm n (fun i j=>W j i) (mm n A W) i j=jm n A (fun r=>W r i) (fun r=>W r j):=by
 rw[<-oc,uB]
def Et.congr(h:Et f l z)(a:∀w M vs,bB w M l' vs->bB w M l vs):Et f l' z:=fun S b w vs c d=>h S b w vs c (a _ _ _ d)
def PT{p:Nat}{H B0:az}(l:eQ n H)(q:jw (det n H) p)(a:nI p)(s:jn n p H v)(t:tC n p H v B0):Et 25 [av n n H,ι p,aK n (fun k=>v k)] (.tup [av n n (ko n p H B0),ι 0])/\Et 15 [av n n H,ι p,aK n (fun k=>v k)] (.tup [av n n (ko n p H B0),ι 0]):=by
 have frz:∀(f:Nat) (Z:az),(∀S,kT S->cI f [av n n H,ι p,aK n (fun k=>v k)] S (fun r S'=>∃b g B S1,r=.tup [ϑ b 0 n,ι 0]/\dh S S1/\gZ S1 S' b g n n B/\∀i j,i<n->j<n->B i j=Z i j))->Et f [av n n H,ι p,aK n (fun k=>v k)] (.tup [av n n Z,ι 0]):=fun f Z h S m =>
  (gZ.freeze (P:=fun r=>r=.tup [av n n Z,ι 0]) ((h S m).mono fun r S' ⟨b,g,B,S1,e,c,d,u⟩=>⟨b,g,n,Z,S1,e,c,d.congr u,rfl⟩)).mono fun r S' ⟨e,w⟩=>⟨e,by rw[w];exact dh.refl S⟩
 refine⟨frz 25 _ fun S m=>?_,frz 15 _ fun S m=>?_⟩
 .exact(F1 S n p H v l q a s m).mono fun r S' ⟨b,g,B,S1,e,o,c,d⟩=>⟨b,g,_,S1,e,c,d,fun i j _ _=>by rw[se ((o.nbB a).uniq l a t)]⟩
 .exact(F2 S n p H v l q a s).mono fun r S' ⟨b,g,B,S1,e,o,c,d⟩=>⟨b,g,_,S1,e,c,d,fun i j _ _=>by rw[se (o.uniq l a t)]⟩

end Go.Proofs.YtdobfmlmenaajaaGreatDoor
