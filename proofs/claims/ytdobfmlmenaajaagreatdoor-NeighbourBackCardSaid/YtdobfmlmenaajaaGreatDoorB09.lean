/-
  Lemmas for NeighbourBack.
-/
import Derived.Test.YtdobfmlmenaajaaGreatDoorB08
namespace Go.Proofs.YtdobfmlmenaajaaGreatDoor
open Go.RowKit Tryz
open _root_.Int renaming tmod→et
open _root_.Option renaming none→ae
set_option maxHeartbeats 6400000
set_option maxRecDepth 4096
set_option linter.all false
attribute [local go_sem] Nat.reduceAdd Nat.reduceEqDiff Nat.reduceLeDiff Nat.reduceLT reduceCtorEq Int.ofNat_lt decide_true decide_false Int.zero_le_ofNat
attribute [local go_sem ↓] reduceIte
variable{B:Int}{b es k m n o:Nat}{f:Nat->Int}{g:Nat->Nat}{E E':Nat->Nat->AV}{S S1:St}{A:az}
def IA(h:∀i,i<n->0<=f i/\f i<=B):0<=ap n f/\ap n f<=n*B:=by
 induction n with
 | zero=>simp[ap]
 | succ n ih =>
  have a:=ih (fun i b=>h i om);have c:=h n om;simp only[ap];rw[ef,sG];simp only[xu,cU];omega
def oG{a b A:Int}(d:0<=a/\a<=A)(c:0<=b/\b<=B):0<=a*b/\a*b<=A*B :=
 ⟨cC d.1 c.1,ck d.2 c.2 c.1 om⟩
def Fg(n m:Nat)(r v:Nat->Int)(p:n<=8)(q:1<=m)(b:∀i,i<n->0<=r i/\r i<=100000000)(c:∀i,i<n->0<=v i/\v i<=10000):PF 178 [aK n r,aK n v,ι m] (ι ((ap n fun j=>r j*v j)%m)):=by
 refine iy func178 ntmps178 results178 ?_;have d:¬((m:Int)=0):=om
 simp only[go_sem,aK];refine aC (fun O S=>∃i:Nat,i<=n/\O 0=aK n r/\O 2=ι m/\O 7=ι (ap i fun j=>r j*v j)/\O 10=aK n v/\O 11=ι n/\O 12=ι i) (fun O S=>n-bO (O 12)) ?_ ?_
 .simp only[go_sem,aK];exact⟨0,om,rfl,rfl⟩
 .rintro O S ⟨i,s,t,u,w,e,g,h⟩;have k:=IA (n:=i) (f:=fun j=>r j*v j) (B:=100000000*10000) (fun j x=>oG (b j om) (c j om));have l:(i:Int)*(100000000*10000)<=8*(100000000*10000):=bK om om;by_cases a:i<n
  .have y:=oG (b i a) (c i a);have o:ω (r i*v i)=r i*v i:=i64_in om om;have z:ω ((ap i fun j=>r j*v j)+r i*v i)=ap (i+1) fun j=>r j*v j:=i64_in om om;simp only[*,go_sem,aK,aF (om:i<1000000),bO]
   exact⟨⟨i+1,om,rfl,rfl⟩,om⟩
  .obtain rfl:i=n:=om
   have o:et (ap i fun j=>r j*v j) m=(ap i fun j=>r j*v j)%m:=aJ k.1;simp only[*,go_sem,aK];exact VR.mf rfl
def zW(n m:Nat)(A:az)(v:Nat->Int)(g:n<=8)(h:1<=m)(l:m<=100000000)(o:∀i j,i<n->j<n->0<=A i j/\A i j<=100000000)(c:∀i,i<n->0<=v i/\v i<=10000):PF 180 [av n n A,aK n v,ι m] (ι (eE n A v n%m)):=by
 refine iy func180 ntmps180 results180 ?_;have p:¬((m:Int)=0):=om
 simp only[go_sem,aK,av];refine aC (fun O S=>∃i:Nat,i<=n/\O 0=av n n A/\O 1=aK n v/\O 2=ι m/\O 7=ι (ap i fun i=>(ap n fun j=>A i j*v j)%m*v i)/\O 10=aK n v/\O 11=ι n/\O 12=ι i) (fun O S=>n-bO (O 12)) ?_ ?_
 .simp only[go_sem,aK,av];exact⟨0,om,rfl,rfl⟩
 .rintro O S ⟨i,y,z,C,D,E,q,r,s⟩;have d:∀j,0<=(ap n fun k=>A j k*v k)%m/\(ap n fun k=>A j k*v k)%m<=100000000:=fun j=>by
   have t:=aW (ap n fun k=>A j k*v k) (show(m:Int)≠0 by omega)
   have F:=aS (ap n fun k=>A j k*v k) (show(0:Int)<m by omega)
   omega
  have u:=IA (n:=i) (f:=fun i=>(ap n fun j=>A i j*v j)%m*v i) (B:=100000000*10000) (fun j e=>oG (d j) (c j om));have w:(i:Int)*(100000000*10000)<=8*(100000000*10000):=bK om om;by_cases b:i<n
  .have t:=oG (d i) (c i b);have x:ω ((ap n fun j=>A i j*v j)%m*v i)=(ap n fun j=>A i j*v j)%m*v i:=i64_in om om;have G:ω ((ap i fun i=>(ap n fun j=>A i j*v j)%m*v i)+(ap n fun j=>A i j*v j)%m*v i)=ap (i+1) fun i=>(ap n fun j=>A i j*v j)%m*v i:=i64_in om om;simp -dsimp only[*,go_sem,aa,aK,av];refine(Fg n m (A i) v g h (fun j e=>o i j b e) c).call ?_;simp only[*,go_sem,aK,av,aF (om:i<1000000),bO]
   exact⟨⟨i+1,om,rfl,rfl⟩,om⟩
  .obtain rfl:i=n:=om
   have x:et (ap i fun a=>(ap i fun j=>A a j*v j)%m*v a) m=eE i A v i%m:=by
    rw[aJ u.1];unfold eE;exact nk i _ _ m fun a _=>by rw[eZ,jO _ (iL _),<-eZ]
   simp only[*,go_sem,aa,aK,av];exact VR.mf rfl

structure fv(o e es:Nat)(S1 S:St)(b:Nat)(g:Nat->Nat)(n m k:Nat)(E:Nat->Nat->AV):Prop where
 ext:dh S1 S
 new:S1 b=ae
 outer:aY S b o 1 n (fun i=>if i<k then .sl es (g i) 0 m else .nil)
 row:∀i,i<k->aY S (g i) e es m (E i)
 rnew:∀i,i<k->S1 (g i)=ae
 inj:∀i j,i<k->j<k->g i=g j->i=j
def fv.init{e:Nat}(c:S1 b=ae){n m:Nat}{z:Nat->AV}(d:∀i,i<n->z i=.nil)(g:Nat->Nat)(E:Nat->Nat->AV):fv o e es S1 (S1.upd b ⟨o,1,n,z⟩) b g n m 0 E :=
 ⟨(dh.refl S1).upd c _,c,aY.here fun i a=>by rw[ah om];exact d i a,fun i a=>om,fun i a=>om,fun i j a=>om⟩
def fv.ne{e:Nat}(h:fv o e es S1 S b g n m k E)(a:o≠e){i:Nat}(c:i<k):b≠g i:=aY.ne h.outer (h.row i c) a
def fv.push{e:Nat}(h:fv o e es S1 S b g n m k E)(l:o≠e){c:Nat}(a:S c=ae){g':Nat->AV}(q:S b=some ⟨o,1,n,g'⟩)(z:Nat->AV) :
  fv o e es S1 ((S.upd c ⟨e,es,m,z⟩).upd b ⟨o,1,n,aL g' k (.sl es c 0 m)⟩) b (fun i=>if i=k then c else g i) n m (k+1) (fun i=>if i=k then z else E i):=by
 have p:b≠c:=by rintro rfl;rw[q]at a;cases a
 have d:=h.ext.none a;obtain⟨w,r,t⟩:=h.outer;rw[q]at r;cases r;refine⟨(h.ext.upd d _).upd h.new _,h.new,aY.here fun i f=>?_,fun i f=>?_,fun i f=>?_,fun i j f x e=>?_⟩
 .have:=t i f;grind [aL]
 .by_cases e:i=k
  .simp only[e,aH];exact(aY.here fun _ _=>rfl).upd (ai p) _
  .simp only[e,aI];have s:=h.row i om;exact(s.upd (aY.fresh s a) _).upd (ai (h.ne l om)) _
 .by_cases e:i=k
  .simp only[e,aH];exact d
  .simp only[e,aI];exact h.rnew i om
 .by_cases u:i=k<;>by_cases v:j=k<;>simp only[u,v,aH,aI]at e ⊢
  .exact absurd e.symm (aY.fresh (h.row j om) a)
  .exact absurd e (aY.fresh (h.row i om) a)
  .exact h.inj i j om om e
def fv.put{e:Nat}(h:fv o e es S1 S b g n m k E)(d:o≠e){i:Nat}(f:i<k){g':Nat->AV}(q:S (g i)=some ⟨e,es,m,g'⟩)(j:Nat)(v:AV) :
  fv o e es S1 (S.upd (g i) ⟨e,es,m,aL g' j v⟩) b g n m k (fun a c=>if a=i/\c=j then v else E a c):=by
 refine⟨h.ext.upd (h.rnew i f) _,h.new,h.outer.upd (h.ne d f) _,fun a l=>?_,h.rnew,h.inj⟩;by_cases e:a=i
 .subst e;obtain⟨u,p,r⟩:=h.row a l;rw[q]at p;cases p;refine aY.here fun c s=>?_;have:=r c s;simp only[aL]
  grind
 .refine((h.row a l).upd (fun t=>e (h.inj a i l f t)) _).congr fun c _=>?_;simp[e]
def fv.congr{e:Nat}(h:fv o e es S1 S b g n m k E)(c:∀i j,i<k->j<m->E i j=E' i j):fv o e es S1 S b g n m k E' :=
 ⟨h.ext,h.new,h.outer,fun i a=>(h.row i a).congr fun j d=>c i j a d,h.rnew,h.inj⟩
def fv.imat(h:fv 29 2 1 S1 S b g n m n E)(c:∀i j,i<n->j<m->E i j=ι (A i j)):gZ S1 S b g n m A :=
 ⟨⟨h.outer.congr fun i a=>by rw[aj a],fun i a=>(h.row i a).congr fun j d=>c i j a d,h.inj⟩,h.ext,h.new,h.rnew⟩
def fv.mat(h:fv 59 50 2 S1 S b g n m n E)(c:∀i j,i<n->j<m->E i j=ϱ (A i j)):iW S1 S b g n m A :=
 ⟨⟨h.outer.congr fun i a=>by rw[aj a],fun i a=>(h.row i a).congr fun j d=>c i j a d,h.inj⟩,h.ext,h.new,h.rnew⟩
def fv.other{e:Nat}(h:fv o e es S1 S b g n m k E){S':St}(a:dh S S'):fv o e es S1 S' b g n m k E :=
 ⟨h.ext.trans a,h.new,a.has h.outer,fun i c=>a.has (h.row i c),h.rnew,h.inj⟩
def fv.upd{e:Nat}(h:fv o e es S1 S b g n m k E){c:Nat}(d:S1 c=ae)(f:b≠c)(j:∀i,i<k->g i≠c)(X:eA):fv o e es S1 (S.upd c X) b g n m k E :=
 ⟨h.ext.upd d _,h.new,h.outer.upd f _,fun i a=>(h.row i a).upd (j i a) _,h.rnew,h.inj⟩
def Gy{t e:Nat}(l:Nat){a:Int}{g:Nat->AV}{k:IntKind}{K:AV->Prop}(b:dQ t=some e)(c:es=cg e)(d:a=(l:Int))(f:l<=n)(h:K (.lst es (n-l) (fun j=>g (l+j)))):lh t (.lst es n g) (some (.int k a)) ae ae K:=by
 unfold lh;rw[b];exact⟨c,l,n,d,rfl,trivial,f,ag _,h⟩

end Go.Proofs.YtdobfmlmenaajaaGreatDoor
