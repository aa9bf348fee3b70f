/-
  Lemmas for NeighbourIndex.
-/
import Derived.Test.YtdobfmlmenaajaaGreatDoorJ14
namespace Go.Proofs.YtdobfmlmenaajaaGreatDoor
open Go.RowKit Tryz
open _root_.Int renaming mul_comm→cF
open _root_.Nat renaming le_refl→ah,sub_self→bW
set_option maxHeartbeats 6400000
set_option maxRecDepth 4096
set_option linter.all false
structure IQ(A:aW)(N R k:Nat)(σ:Nat->Nat)(W:aW):Prop where
 el:kF A N σ k
 q:∀a r,k<=a->a<N->k<=r->r<R->W a r=cP (fun x y=>A x (σ y)) k (r-k) (a-k)
 z:∀a r,k<=a->a<N->r<k->W a r=0
 b:∀a r,a<N->r<R->nb (W a r) 31
structure IE(A:aW)(N R k j:Nat)(σ:Nat->Nat)(W:aW):Prop where
 el:kF A N σ k
 p:∀r,k<=r->r<R->W k r=cP (fun x y=>A x (σ y)) k (r-k) 0
 pz:∀r,r<k->W k r=0
 n:∀a r,k<a->a<j->a<N->k+1<=r->r<R->W a r=cP (fun x y=>A x (σ y)) (k+1) (r-(k+1)) (a-(k+1))
 nz:∀a r,k<a->a<j->a<N->r<=k->W a r=0
 o:∀a r,j<=a->a<N->k<=r->r<R->W a r=cP (fun x y=>A x (σ y)) k (r-k) (a-k)
 oz:∀a r,j<=a->a<N->r<k->W a r=0
 b:∀a r,a<N->r<R->nb (W a r) 31
theorem IQ.swap{A:aW}{N R k p:Nat}{σ:Nat->Nat}{W:aW}(h:IQ A N R k σ W)(hk:k<=p)(hp:p<N):IQ A N R k (fun a=>σ (dU k p a)) (fun a=>W (dU k p a)):=by
 have h1:∀a,a<N->dU k p a<N:=fun a ha=>by unfold dU;split<;>(try split)<;>omega
 have h2:∀a,k<=a->k<=dU k p a:=fun a ha=>by unfold dU;split<;>(try split)<;>omega
 have h3:∀a,k<=a->dU k p a-k=dU 0 (p-k) (a-k):=fun a ha=>by
  unfold dU;by_cases e:a=k
  ·rw[if_pos e,if_pos om]
  ·rw[if_neg e,if_neg (om:¬a-k=0)]
   by_cases e2:a=p
   ·rw[if_pos e2,if_pos om];omega
   ·rw[if_neg e2,if_neg om]
 refine⟨h.el.swap hk hp,fun a r ha1 ha2 hr1 hr2=>?_,fun a r ha1 ha2 hr=>h.z _ r (h2 a ha1) (h1 a ha2) hr,fun a r ha hr=>h.b _ r (h1 a ha) hr⟩;rw[h.q _ r (h2 a ha1) (h1 a ha2) hr1 hr2,h3 a ha1];exact(Bi (fun x y=>A x (σ y)) hk (r-k) (a-k)).symm
theorem IQ.start{A:aW}{N R k:Nat}{σ:Nat->Nat}{W:aW}(h:IQ A N R k σ W)(hk:k<N):IE A N R k (k+1) σ W :=
 ⟨h.el,fun r h1 h2=>by rw[h.q k r (ah _) hk h1 h2,bW],fun r hr=>h.z k r (ah _) hk hr,fun a r h1 h2=>om,fun a r h1 h2=>om,fun a r h1 h2=>h.q a r om h2,fun a r h1 h2=>h.z a r om h2,h.b⟩
theorem IE.step{A:aW}{N R k j:Nat}{σ:Nat->Nat}{W:aW}(h:IE A N R k j σ W)(hj:k<j)(hjN:j<N)(hkR:k<R)(hB:∀i c,k+1+c<N->k+1+i<R->nb (cP (fun x y=>A x (σ y)) (k+1) i c) 31) :
  IE A N R k (j+1) σ (fun a r=>if a=j then(W k k*W j r-W j k*W k r)/det k (fun x y=>A x (σ y))else W a r):=by
 have hd:=h.el.lead k (ah _);have key:∀r,k+1<=r->r<R->(W k k*W j r-W j k*W k r)/det k (fun x y=>A x (σ y))=cP (fun x y=>A x (σ y)) (k+1) (r-(k+1)) (j-(k+1)):=by
  intro r h1 h2;rw[h.p k (ah _) hkR,h.o j r (ah _) hjN om h2,h.o j k (ah _) hjN (ah _) hkR,h.p r om h2,bW];have e:=ju h.el.lead (r-(k+1)) (j-(k+1));rw[(om:r-(k+1)+1=r-k),(om:j-(k+1)+1=j-k)]at e
  rw[cF (cP _ k 0 (j-k)),e];exact Int.mul_ediv_cancel_left _ hd
 have keyz:∀r,r<=k->(W k k*W j r-W j k*W k r)/det k (fun x y=>A x (σ y))=0:=by
  intro r hr;have:W k k*W j r-W j k*W k r=0:=by
   by_cases e:r=k
   ·rw[e,cF];omega
   ·rw[h.oz j r (ah _) hjN om,h.pz r om];simp
  rw[this];simp
 refine⟨h.el,fun r h1 h2=>?_,fun r h1=>?_,fun a r h1 h2 h3 h4 h5=>?_,fun a r h1 h2 h3 h4=>?_,fun a r h1 h2 h3 h4=>?_,fun a r h1 h2 h3=>?_,fun a r h1 h2=>?_⟩
 ·rw[if_neg om];exact h.p r h1 h2
 ·rw[if_neg om];exact h.pz r h1
 ·by_cases e:a=j
  ·rw[if_pos e,e];exact key r h4 h5
  ·rw[if_neg e];exact h.n a r h1 om h3 h4 h5
 ·by_cases e:a=j
  ·rw[if_pos e];exact keyz r h4
  ·rw[if_neg e];exact h.nz a r h1 om h3 h4
 ·rw[if_neg om];exact h.o a r om h2 h3 h4
 ·rw[if_neg om];exact h.oz a r om h2 h3
 ·by_cases e:a=j
  ·rw[if_pos e];by_cases e2:k+1<=r
   ·rw[key r e2 h2];exact hB _ _ om om
   ·rw[keyz r om];exact nb.zero 31
  ·rw[if_neg e];exact h.b a r h1 h2
theorem IE.done{A:aW}{N R k:Nat}{σ:Nat->Nat}{W:aW}(h:IE A N R k N σ W)(h0:cP (fun x y=>A x (σ y)) k 0 0≠0):IQ A N R (k+1) σ W :=
 ⟨h.el.step h0,fun a r h1 h2 h3 h4=>h.n a r om h2 h2 h3 h4,fun a r h1 h2 h3=>h.nz a r om h2 h2 om,h.b⟩
theorem IQ.init{A:aW}{N R:Nat}(hb:∀a r,a<N->r<R->nb (A r a) 31):IQ A N R 0 id (fun a r=>A r a) :=
 ⟨kF.init A N,fun a r _ _ _ _=>by rw[iK];rfl,fun a r _ _ h=>om,hb⟩
end Go.Proofs.YtdobfmlmenaajaaGreatDoor
