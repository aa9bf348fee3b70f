/-
  Lemmas for NeighbourForm.
-/
import Derived.Test.YtdobfmlmenaajaaGreatDoorK08
namespace Go.Proofs.YtdobfmlmenaajaaGreatDoor
open Go.RowKit Tryz
open _root_.Int renaming tmod→eV
open _root_.Option renaming none→ae
set_option maxHeartbeats 6400000
set_option maxRecDepth 4096
set_option linter.all false
attribute [local go_sem] Nat.reduceAdd Nat.reduceEqDiff Nat.reduceLeDiff Nat.reduceLT reduceCtorEq Int.ofNat_lt decide_true decide_false Int.zero_le_ofNat
attribute [local go_sem ↓] reduceIte
variable{B:Int}{b es k m n o:Nat}{f:Nat->Int}{g:Nat->Nat}{E E':Nat->Nat->AV}{S S1:St}{A:az}
def IF(h:∀i,i<n->0<=f i/\f i<=B):0<=ap n f/\ap n f<=n*B:=by
 induction n with
 | zero=>simp[ap]
 | succ n ih =>
  have a:=ih (fun i b=>h i om);have c:=h n om;simp only[ap];rw[eD,sA];simp only[wY,cL];omega
def oq{a b A:Int}(d:0<=a/\a<=A)(c:0<=b/\b<=B):0<=a*b/\a*b<=A*B :=
 ⟨cD d.1 c.1,cw d.2 c.2 c.1 om⟩
def Fi(n m:Nat)(r v:Nat->Int)(p:n<=8)(q:1<=m)(b:∀i,i<n->0<=r i/\r i<=100000000)(c:∀i,i<n->0<=v i/\v i<=10000):PF 178 [aK n r,aK n v,ι m] (ι ((ap n fun j=>r j*v j)%m)):=by
 refine gN func178 ntmps178 results178 ?_;have d:¬((m:Int)=0):=om
 simp only[go_sem,aK];refine aC (fun O S=>∃i:Nat,i<=n/\O 0=aK n r/\O 2=ι m/\O 7=ι (ap i fun j=>r j*v j)/\O 10=aK n v/\O 11=ι n/\O 12=ι i) (fun O S=>n-bS (O 12)) ?_ ?_
 .simp only[go_sem,aK];exact⟨0,om,rfl,rfl⟩
 .rintro O S ⟨i,s,t,u,w,e,g,h⟩;have k:=IF (n:=i) (f:=fun j=>r j*v j) (B:=100000000*10000) (fun j x=>oq (b j om) (c j om));have l:(i:Int)*(100000000*10000)<=8*(100000000*10000):=bK om om;by_cases a:i<n
  .have y:=oq (b i a) (c i a);have o:ω (r i*v i)=r i*v i:=i64_in om om;have z:ω ((ap i fun j=>r j*v j)+r i*v i)=ap (i+1) fun j=>r j*v j:=i64_in om om;simp only[*,go_sem,aK,aI (om:i<1000000),bS]
   exact⟨⟨i+1,om,rfl,rfl⟩,om⟩
  .obtain rfl:i=n:=om
   have o:eV (ap i fun j=>r j*v j) m=(ap i fun j=>r j*v j)%m:=aO k.1;simp only[*,go_sem,aK];exact VR.mf rfl
def zO(n m:Nat)(A:az)(v:Nat->Int)(g:n<=8)(h:1<=m)(l:m<=100000000)(o:∀i j,i<n->j<n->0<=A i j/\A i j<=100000000)(c:∀i,i<n->0<=v i/\v i<=10000):PF 180 [av n n A,aK n v,ι m] (ι (eH n A v n%m)):=by
 refine gN func180 ntmps180 results180 ?_;have p:¬((m:Int)=0):=om
 simp only[go_sem,aK,av];refine aC (fun O S=>∃i:Nat,i<=n/\O 0=av n n A/\O 1=aK n v/\O 2=ι m/\O 7=ι (ap i fun i=>(ap n fun j=>A i j*v j)%m*v i)/\O 10=aK n v/\O 11=ι n/\O 12=ι i) (fun O S=>n-bS (O 12)) ?_ ?_
 .simp only[go_sem,aK,av];exact⟨0,om,rfl,rfl⟩
 .rintro O S ⟨i,y,z,C,D,E,q,r,s⟩;have d:∀j,0<=(ap n fun k=>A j k*v k)%m/\(ap n fun k=>A j k*v k)%m<=100000000:=fun j=>by
   have t:=aV (ap n fun k=>A j k*v k) (show(m:Int)≠0 by omega)
   have F:=aU (ap n fun k=>A j k*v k) (show(0:Int)<m by omega)
   omega
  have u:=IF (n:=i) (f:=fun i=>(ap n fun j=>A i j*v j)%m*v i) (B:=100000000*10000) (fun j e=>oq (d j) (c j om));have w:(i:Int)*(100000000*10000)<=8*(100000000*10000):=bK om om;by_cases b:i<n
  .have t:=oq (d i) (c i b);have x:ω ((ap n fun j=>A i j*v j)%m*v i)=(ap n fun j=>A i j*v j)%m*v i:=i64_in om om;have G:ω ((ap i fun i=>(ap n fun j=>A i j*v j)%m*v i)+(ap n fun j=>A i j*v j)%m*v i)=ap (i+1) fun i=>(ap n fun j=>A i j*v j)%m*v i:=i64_in om om;simp -dsimp only[*,go_sem,aa,aK,av];refine(Fi n m (A i) v g h (fun j e=>o i j b e) c).call ?_;simp only[*,go_sem,aK,av,aI (om:i<1000000),bS]
   exact⟨⟨i+1,om,rfl,rfl⟩,om⟩
  .obtain rfl:i=n:=om
   have x:eV (ap i fun a=>(ap i fun j=>A a j*v j)%m*v a) m=eH i A v i%m:=by
    rw[aO u.1];unfold eH;exact ni i _ _ m fun a _=>by rw[eY,jN _ (iJ _),<-eY]
   simp only[*,go_sem,aa,aK,av];exact VR.mf rfl

structure fq(o e es:Nat)(S1 S:St)(b:Nat)(g:Nat->Nat)(n m k:Nat)(E:Nat->Nat->AV):Prop where
 ext:dy S1 S
 new:S1 b=ae
 outer:a6 S b o 1 n (fun i=>if i<k then .sl es (g i) 0 m else .nil)
 row:∀i,i<k->a6 S (g i) e es m (E i)
 rnew:∀i,i<k->S1 (g i)=ae
 inj:∀i j,i<k->j<k->g i=g j->i=j
def fq.init{e:Nat}(c:S1 b=ae){n m:Nat}{z:Nat->AV}(d:∀i,i<n->z i=.nil)(g:Nat->Nat)(E:Nat->Nat->AV):fq o e es S1 (S1.upd b ⟨o,1,n,z⟩) b g n m 0 E :=
 ⟨(dy.refl S1).upd c _,c,a6.here fun i a=>by rw[ah om];exact d i a,fun i a=>om,fun i a=>om,fun i j a=>om⟩
def fq.ne{e:Nat}(h:fq o e es S1 S b g n m k E)(a:o≠e){i:Nat}(c:i<k):b≠g i:=a6.ne h.outer (h.row i c) a
def fq.push{e:Nat}(h:fq o e es S1 S b g n m k E)(l:o≠e){c:Nat}(a:S c=ae){g':Nat->AV}(q:S b=some ⟨o,1,n,g'⟩)(z:Nat->AV) :
  fq o e es S1 ((S.upd c ⟨e,es,m,z⟩).upd b ⟨o,1,n,aQ g' k (.sl es c 0 m)⟩) b (fun i=>if i=k then c else g i) n m (k+1) (fun i=>if i=k then z else E i):=by
 have p:b≠c:=by rintro rfl;rw[q]at a;cases a
 have d:=h.ext.none a;obtain⟨w,r,t⟩:=h.outer;rw[q]at r;cases r;refine⟨(h.ext.upd d _).upd h.new _,h.new,a6.here fun i f=>?_,fun i f=>?_,fun i f=>?_,fun i j f x e=>?_⟩
 .have:=t i f;grind [aQ]
 .by_cases e:i=k
  .simp only[e,aE];exact(a6.here fun _ _=>rfl).upd (ai p) _
  .simp only[e,aH];have s:=h.row i om;exact(s.upd (a6.fresh s a) _).upd (ai (h.ne l om)) _
 .by_cases e:i=k
  .simp only[e,aE];exact d
  .simp only[e,aH];exact h.rnew i om
 .by_cases u:i=k<;>by_cases v:j=k<;>simp only[u,v,aE,aH]at e ⊢
  .exact absurd e.symm (a6.fresh (h.row j om) a)
  .exact absurd e (a6.fresh (h.row i om) a)
  .exact h.inj i j om om e
def fq.put{e:Nat}(h:fq o e es S1 S b g n m k E)(d:o≠e){i:Nat}(f:i<k){g':Nat->AV}(q:S (g i)=some ⟨e,es,m,g'⟩)(j:Nat)(v:AV) :
  fq o e es S1 (S.upd (g i) ⟨e,es,m,aQ g' j v⟩) b g n m k (fun a c=>if a=i/\c=j then v else E a c):=by
 refine⟨h.ext.upd (h.rnew i f) _,h.new,h.outer.upd (h.ne d f) _,fun a l=>?_,h.rnew,h.inj⟩;by_cases e:a=i
 .subst e;obtain⟨u,p,r⟩:=h.row a l;rw[q]at p;cases p;refine a6.here fun c s=>?_;have:=r c s;simp only[aQ]
  grind
 .refine((h.row a l).upd (fun t=>e (h.inj a i l f t)) _).congr fun c _=>?_;simp[e]
def fq.congr{e:Nat}(h:fq o e es S1 S b g n m k E)(c:∀i j,i<k->j<m->E i j=E' i j):fq o e es S1 S b g n m k E' :=
 ⟨h.ext,h.new,h.outer,fun i a=>(h.row i a).congr fun j d=>c i j a d,h.rnew,h.inj⟩
def fq.imat(h:fq 29 2 1 S1 S b g n m n E)(c:∀i j,i<n->j<m->E i j=ι (A i j)):ib S1 S b g n m A :=
 ⟨⟨h.outer.congr fun i a=>by rw[aj a],fun i a=>(h.row i a).congr fun j d=>c i j a d,h.inj⟩,h.ext,h.new,h.rnew⟩
def fq.mat(h:fq 59 50 2 S1 S b g n m n E)(c:∀i j,i<n->j<m->E i j=.big (A i j)):iT S1 S b g n m A :=
 ⟨⟨h.outer.congr fun i a=>by rw[aj a],fun i a=>(h.row i a).congr fun j d=>c i j a d,h.inj⟩,h.ext,h.new,h.rnew⟩
def fq.other{e:Nat}(h:fq o e es S1 S b g n m k E){S':St}(a:dy S S'):fq o e es S1 S' b g n m k E :=
 ⟨h.ext.trans a,h.new,a.has h.outer,fun i c=>a.has (h.row i c),h.rnew,h.inj⟩
def fq.upd{e:Nat}(h:fq o e es S1 S b g n m k E){c:Nat}(d:S1 c=ae)(f:b≠c)(j:∀i,i<k->g i≠c)(X:eo):fq o e es S1 (S.upd c X) b g n m k E :=
 ⟨h.ext.upd d _,h.new,h.outer.upd f _,fun i a=>(h.row i a).upd (j i a) _,h.rnew,h.inj⟩
def GA{t e:Nat}(l:Nat){a:Int}{g:Nat->AV}{k:IntKind}{K:AV->Prop}(b:dO t=some e)(c:es=cb e)(d:a=(l:Int))(f:l<=n)(h:K (.lst es (n-l) (fun j=>g (l+j)))):li t (.lst es n g) (some (.int k a)) ae ae K:=by
 unfold li;rw[b];exact⟨c,l,n,d,rfl,trivial,f,ag _,h⟩

end Go.Proofs.YtdobfmlmenaajaaGreatDoor
