/-
  Lemmas for NeighbourVerify.
-/
import Derived.Test.YtdobfmlmenaajaaGreatDoorV22
namespace Go.Proofs.YtdobfmlmenaajaaGreatDoor
open Go.RowKit Tryz
open _root_.Int renaming tmod→eI
open _root_.Option renaming none→ab
set_option maxHeartbeats 6400000
set_option maxRecDepth 4096
set_option linter.all false
attribute [local go_sem] Nat.reduceAdd Nat.reduceEqDiff Nat.reduceLeDiff Nat.reduceLT reduceCtorEq Int.ofNat_lt decide_true decide_false Int.zero_le_ofNat
attribute [local go_sem ↓] reduceIte
variable{B:Int}{b es k m n o:Nat}{f:Nat->Int}{g:Nat->Nat}{E E':Nat->Nat->AV}{S S1:St}{A:aH}
def Jk(h:∀i,i<n->0<=f i/\f i<=B):0<=aq n f/\aq n f<=n*B:=by
 induction n with
 | zero=>simp[aq]
 | succ n ih =>
  have a:=ih (fun i b=>h i om);have c:=h n om;simp only[aq];rw[eM,yX];simp only[xh,dG];omega
def oP{a b A:Int}(d:0<=a/\a<=A)(c:0<=b/\b<=B):0<=a*b/\a*b<=A*B :=
 ⟨dr d.1 c.1,da d.2 c.2 c.1 om⟩
def FE(n m:Nat)(r v:Nat->Int)(p:n<=8)(q:1<=m)(b:∀i,i<n->0<=r i/\r i<=10000)(c:∀i,i<n->0<=v i/\v i<=10000):PF 178 [aW n r,aW n v,.int .i64 m] (.int .i64 ((aq n fun j=>r j*v j)%m)):=by
 refine jo func178 ntmps178 results178 ?_;have d:¬((m:Int)=0):=om
 simp only[go_sem,aW];refine aI (fun O S=>∃i:Nat,i<=n/\O 0=aW n r/\O 2=.int .i64 m/\O 7=.int .i64 (aq i fun j=>r j*v j)/\O 10=aW n v/\O 11=.int .i64 n/\O 12=.int .i64 i) (fun O S=>n-co (O 12)) ?_ ?_
 .simp only[go_sem,aW];exact⟨0,om,rfl,rfl⟩
 .rintro O S ⟨i,s,t,u,w,e,g,h⟩;have k:=Jk (n:=i) (f:=fun j=>r j*v j) (B:=10000*10000) (fun j x=>oP (b j om) (c j om));have l:(i:Int)*(10000*10000)<=8*(10000*10000):=cB om om;by_cases a:i<n
  .have y:=oP (b i a) (c i a);have o:IntKind.i64.wrap (r i*v i)=r i*v i:=i64_in om om;have z:IntKind.i64.wrap ((aq i fun j=>r j*v j)+r i*v i)=aq (i+1) fun j=>r j*v j:=i64_in om om;simp only[*,go_sem,aW,aS (om:i<1000000),co]
   exact⟨⟨i+1,om,rfl,rfl⟩,om⟩
  .obtain rfl:i=n:=om
   have o:eI (aq i fun j=>r j*v j) m=(aq i fun j=>r j*v j)%m:=aN k.1;simp only[*,go_sem,aW];exact VR.mf rfl
def z0(n m:Nat)(A:aH)(v:Nat->Int)(g:n<=8)(h:1<=m)(l:m<=10000)(o:∀i j,i<n->j<n->0<=A i j/\A i j<=10000)(c:∀i,i<n->0<=v i/\v i<=10000):PF 180 [aC n n A,aW n v,.int .i64 m] (.int .i64 (fB n A v n%m)):=by
 refine jo func180 ntmps180 results180 ?_;have p:¬((m:Int)=0):=om
 simp only[go_sem,aW,aC];refine aI (fun O S=>∃i:Nat,i<=n/\O 0=aC n n A/\O 1=aW n v/\O 2=.int .i64 m/\O 7=.int .i64 (aq i fun i=>(aq n fun j=>A i j*v j)%m*v i)/\O 10=aW n v/\O 11=.int .i64 n/\O 12=.int .i64 i) (fun O S=>n-co (O 12)) ?_ ?_
 .simp only[go_sem,aW,aC];exact⟨0,om,rfl,rfl⟩
 .rintro O S ⟨i,y,z,C,D,E,q,r,s⟩;have d:∀j,0<=(aq n fun k=>A j k*v k)%m/\(aq n fun k=>A j k*v k)%m<=10000:=fun j=>by
   have t:=aT (aq n fun k=>A j k*v k) (show(m:Int)≠0 by omega)
   have F:=aP (aq n fun k=>A j k*v k) (show(0:Int)<m by omega)
   omega
  have u:=Jk (n:=i) (f:=fun i=>(aq n fun j=>A i j*v j)%m*v i) (B:=10000*10000) (fun j e=>oP (d j) (c j om));have w:(i:Int)*(10000*10000)<=8*(10000*10000):=cB om om;by_cases b:i<n
  .have t:=oP (d i) (c i b);have x:IntKind.i64.wrap ((aq n fun j=>A i j*v j)%m*v i)=(aq n fun j=>A i j*v j)%m*v i:=i64_in om om;have G:IntKind.i64.wrap ((aq i fun i=>(aq n fun j=>A i j*v j)%m*v i)+(aq n fun j=>A i j*v j)%m*v i)=aq (i+1) fun i=>(aq n fun j=>A i j*v j)%m*v i:=i64_in om om;simp -dsimp only[*,go_sem,aa,aW,aC];refine(FE n m (A i) v g h (fun j e=>o i j b e) c).call ?_;simp only[*,go_sem,aW,aC,aS (om:i<1000000),co]
   exact⟨⟨i+1,om,rfl,rfl⟩,om⟩
  .obtain rfl:i=n:=om
   have x:eI (aq i fun a=>(aq i fun j=>A a j*v j)%m*v a) m=fB i A v i%m:=by
    rw[aN u.1];unfold fB;exact nU i _ _ m fun a _=>by rw[fP,j8 _ (iL _),<-fP]
   simp only[*,go_sem,aa,aW,aC];exact VR.mf rfl

structure fL(o e es:Nat)(S1 S:St)(b:Nat)(g:Nat->Nat)(n m k:Nat)(E:Nat->Nat->AV):Prop where
 ext:fM S1 S
 new:S1 b=ab
 outer:bG S b o 1 n (fun i=>if i<k then .sl es (g i) 0 m else .nil)
 row:∀i,i<k->bG S (g i) e es m (E i)
 rnew:∀i,i<k->S1 (g i)=ab
 inj:∀i j,i<k->j<k->g i=g j->i=j
def fL.init{e:Nat}(c:S1 b=ab){n m:Nat}{z:Nat->AV}(d:∀i,i<n->z i=.nil)(g:Nat->Nat)(E:Nat->Nat->AV):fL o e es S1 (S1.upd b ⟨o,1,n,z⟩) b g n m 0 E :=
 ⟨(fM.refl S1).upd c _,c,bG.here fun i a=>by rw[af om];exact d i a,fun i a=>om,fun i a=>om,fun i j a=>om⟩
def fL.ne{e:Nat}(h:fL o e es S1 S b g n m k E)(a:o≠e){i:Nat}(c:i<k):b≠g i:=bG.ne h.outer (h.row i c) a
def fL.push{e:Nat}(h:fL o e es S1 S b g n m k E)(l:o≠e){c:Nat}(a:S c=ab){g':Nat->AV}(q:S b=some ⟨o,1,n,g'⟩)(z:Nat->AV) :
  fL o e es S1 ((S.upd c ⟨e,es,m,z⟩).upd b ⟨o,1,n,bR g' k (.sl es c 0 m)⟩) b (fun i=>if i=k then c else g i) n m (k+1) (fun i=>if i=k then z else E i):=by
 have p:b≠c:=by rintro rfl;rw[q]at a;cases a
 have d:=h.ext.none a;obtain⟨w,r,t⟩:=h.outer;rw[q]at r;cases r;refine⟨(h.ext.upd d _).upd h.new _,h.new,bG.here fun i f=>?_,fun i f=>?_,fun i f=>?_,fun i j f x e=>?_⟩
 .have:=t i f;grind [bR]
 .by_cases e:i=k
  .simp only[e,aK];exact(bG.here fun _ _=>rfl).upd (aj p) _
  .simp only[e,aM];have s:=h.row i om;exact(s.upd (bG.fresh s a) _).upd (aj (h.ne l om)) _
 .by_cases e:i=k
  .simp only[e,aK];exact d
  .simp only[e,aM];exact h.rnew i om
 .by_cases u:i=k<;>by_cases v:j=k<;>simp only[u,v,aK,aM]at e ⊢
  .exact absurd e.symm (bG.fresh (h.row j om) a)
  .exact absurd e (bG.fresh (h.row i om) a)
  .exact h.inj i j om om e
def fL.put{e:Nat}(h:fL o e es S1 S b g n m k E)(d:o≠e){i:Nat}(f:i<k){g':Nat->AV}(q:S (g i)=some ⟨e,es,m,g'⟩)(j:Nat)(v:AV) :
  fL o e es S1 (S.upd (g i) ⟨e,es,m,bR g' j v⟩) b g n m k (fun a c=>if a=i/\c=j then v else E a c):=by
 refine⟨h.ext.upd (h.rnew i f) _,h.new,h.outer.upd (h.ne d f) _,fun a l=>?_,h.rnew,h.inj⟩;by_cases e:a=i
 .subst e;obtain⟨u,p,r⟩:=h.row a l;rw[q]at p;cases p;refine bG.here fun c s=>?_;have:=r c s;simp only[bR]
  grind
 .refine((h.row a l).upd (fun t=>e (h.inj a i l f t)) _).congr fun c _=>?_;simp[e]
def fL.congr{e:Nat}(h:fL o e es S1 S b g n m k E)(c:∀i j,i<k->j<m->E i j=E' i j):fL o e es S1 S b g n m k E' :=
 ⟨h.ext,h.new,h.outer,fun i a=>(h.row i a).congr fun j d=>c i j a d,h.rnew,h.inj⟩
def fL.imat(h:fL 29 2 1 S1 S b g n m n E)(c:∀i j,i<n->j<m->E i j=.int .i64 (A i j)):qL S1 S b g n m A :=
 ⟨⟨h.outer.congr fun i a=>by rw[ah a],fun i a=>(h.row i a).congr fun j d=>c i j a d,h.inj⟩,h.ext,h.new,h.rnew⟩
def fL.mat(h:fL 59 50 2 S1 S b g n m n E)(c:∀i j,i<n->j<m->E i j=.big (A i j)):je S1 S b g n m A :=
 ⟨⟨h.outer.congr fun i a=>by rw[ah a],fun i a=>(h.row i a).congr fun j d=>c i j a d,h.inj⟩,h.ext,h.new,h.rnew⟩
def fL.other{e:Nat}(h:fL o e es S1 S b g n m k E){S':St}(a:fM S S'):fL o e es S1 S' b g n m k E :=
 ⟨h.ext.trans a,h.new,a.has h.outer,fun i c=>a.has (h.row i c),h.rnew,h.inj⟩
def fL.upd{e:Nat}(h:fL o e es S1 S b g n m k E){c:Nat}(d:S1 c=ab)(f:b≠c)(j:∀i,i<k->g i≠c)(X:ft):fL o e es S1 (S.upd c X) b g n m k E :=
 ⟨h.ext.upd d _,h.new,h.outer.upd f _,fun i a=>(h.row i a).upd (j i a) _,h.rnew,h.inj⟩
def Hb{t e:Nat}(l:Nat){a:Int}{g:Nat->AV}{k:IntKind}{K:AV->Prop}(b:dY t=some e)(c:es=cg e)(d:a=(l:Int))(f:l<=n)(h:K (.lst es (n-l) (fun j=>g (l+j)))):kG t (.lst es n g) (some (.int k a)) ab ab K:=by
 unfold kG;rw[b];exact⟨c,l,n,d,rfl,trivial,f,ae _,h⟩

end Go.Proofs.YtdobfmlmenaajaaGreatDoor
