/-
  Lemmas for NeighbourKeeps.
-/
import Derived.Test.YtdobfmlmenaajaaGreatDoorL26
namespace Go.Proofs.YtdobfmlmenaajaaGreatDoor
open Go.RowKit Tryz
open _root_.Int renaming mul_comm→bZ
open _root_.Nat renaming le_refl→af,sub_self→bH
set_option maxHeartbeats 6400000
set_option maxRecDepth 4096
set_option linter.all false
variable{N R k:Nat}{σ:Nat->Nat}{A W:aB}
structure IQ(A:aB)(N R k:Nat)(σ:Nat->Nat)(W:aB):Prop where
 el:ln A N σ k
 q:∀a r,k<=a->a<N->k<=r->r<R->W a r=ca (fun x y=>A x (σ y)) k (r-k) (a-k)
 z:∀a r,k<=a->a<N->r<k->W a r=0
 b:∀a r,a<N->r<R->nb (W a r) 31
structure IE(A:aB)(N R k j:Nat)(σ:Nat->Nat)(W:aB):Prop where
 el:ln A N σ k
 p:∀r,k<=r->r<R->W k r=ca (fun x y=>A x (σ y)) k (r-k) 0
 pz:∀r,r<k->W k r=0
 n:∀a r,k<a->a<j->a<N->k+1<=r->r<R->W a r=ca (fun x y=>A x (σ y)) (k+1) (r-(k+1)) (a-(k+1))
 nz:∀a r,k<a->a<j->a<N->r<=k->W a r=0
 o:∀a r,j<=a->a<N->k<=r->r<R->W a r=ca (fun x y=>A x (σ y)) k (r-k) (a-k)
 oz:∀a r,j<=a->a<N->r<k->W a r=0
 b:∀a r,a<N->r<R->nb (W a r) 31
theorem IQ.swap{p:Nat}(h:IQ A N R k σ W)(m:k<=p)(s:p<N):IQ A N R k (fun a=>σ (cV k p a)) (fun a=>W (cV k p a)):=by
 have g:∀a,a<N->cV k p a<N:=fun a f=>by unfold cV;split<;>(try split)<;>omega
 have n:∀a,k<=a->k<=cV k p a:=fun a f=>by unfold cV;split<;>(try split)<;>omega
 have t:∀a,k<=a->cV k p a-k=cV 0 (p-k) (a-k):=fun a f=>by
  unfold cV;by_cases e:a=k
  ·rw[if_pos e,if_pos om]
  ·rw[if_neg e,if_neg (om:¬a-k=0)]
   by_cases o:a=p
   ·rw[if_pos o,if_pos om];omega
   ·rw[if_neg o,if_neg om]
 refine⟨h.el.swap m s,fun a r c d i j=>?_,fun a r c d l=>h.z _ r (n a c) (g a d) l,fun a r f l=>h.b _ r (g a f) l⟩;rw[h.q _ r (n a c) (g a d) i j,t a c];exact(B3 (fun x y=>A x (σ y)) m (r-k) (a-k)).symm
theorem IQ.start(h:IQ A N R k σ W)(e:k<N):IE A N R k (k+1) σ W :=
 ⟨h.el,fun r d c=>by rw[h.q k r (af _) e d c,bH],fun r f=>h.z k r (af _) e f,fun a r d c=>om,fun a r d c=>om,fun a r d c=>h.q a r om c,fun a r d c=>h.z a r om c,h.b⟩
theorem IE.step{j:Nat}(h:IE A N R k j σ W)(w:k<j)(g:j<N)(q:k<R)(t:∀i c,k+1+c<N->k+1+i<R->nb (ca (fun x y=>A x (σ y)) (k+1) i c) 31) :
  IE A N R k (j+1) σ (fun a r=>if a=j then(W k k*W j r-W j k*W k r)/det k (fun x y=>A x (σ y))else W a r):=by
 have u:=h.el.lead k (af _);have key:∀r,k+1<=r->r<R->(W k k*W j r-W j k*W k r)/det k (fun x y=>A x (σ y))=ca (fun x y=>A x (σ y)) (k+1) (r-(k+1)) (j-(k+1)):=by
  intro r f d;rw[h.p k (af _) q,h.o j r (af _) g om d,h.o j k (af _) g (af _) q,h.p r om d,bH];have e:=ix h.el.lead (r-(k+1)) (j-(k+1));rw[(om:r-(k+1)+1=r-k),(om:j-(k+1)+1=j-k)]at e
  rw[bZ (ca _ k 0 (j-k)),e];exact Int.mul_ediv_cancel_left _ u
 have keyz:∀r,r<=k->(W k k*W j r-W j k*W k r)/det k (fun x y=>A x (σ y))=0:=by
  intro r z;have:W k k*W j r-W j k*W k r=0:=by
   by_cases e:r=k
   ·rw[e,bZ];omega
   ·rw[h.oz j r (af _) g om,h.pz r om];simp
  rw[this];simp
 refine⟨h.el,fun r f d=>?_,fun r f=>?_,fun a r f d l m s=>?_,fun a r f d l m=>?_,fun a r f d l m=>?_,fun a r f d l=>?_,fun a r f d=>?_⟩
 ·rw[if_neg om];exact h.p r f d
 ·rw[if_neg om];exact h.pz r f
 ·by_cases e:a=j
  ·rw[if_pos e,e];exact key r m s
  ·rw[if_neg e];exact h.n a r f om l m s
 ·by_cases e:a=j
  ·rw[if_pos e];exact keyz r m
  ·rw[if_neg e];exact h.nz a r f om l m
 ·rw[if_neg om];exact h.o a r om d l m
 ·rw[if_neg om];exact h.oz a r om d l
 ·by_cases e:a=j
  ·rw[if_pos e];by_cases v:k+1<=r
   ·rw[key r v d];exact t _ _ om om
   ·rw[keyz r om];exact nb.zero 31
  ·rw[if_neg e];exact h.b a r f d
theorem IE.done(h:IE A N R k N σ W)(e:ca (fun x y=>A x (σ y)) k 0 0≠0):IQ A N R (k+1) σ W :=
 ⟨h.el.step e,fun a r f c d g=>h.n a r om c c d g,fun a r f c d=>h.nz a r om c c om,h.b⟩
theorem IQ.init(b:∀a r,a<N->r<R->nb (A r a) 31):IQ A N R 0 id (fun a r=>A r a) :=
 ⟨ln.init A N,fun a r _ _ _ _=>by rw[eS];rfl,fun a r _ _ h=>om,b⟩

end Go.Proofs.YtdobfmlmenaajaaGreatDoor
