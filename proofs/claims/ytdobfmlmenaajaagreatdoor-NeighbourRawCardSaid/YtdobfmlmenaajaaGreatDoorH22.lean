/-
  Lemmas for NeighbourRaw.
-/
import Derived.Test.YtdobfmlmenaajaaGreatDoorH21
namespace Go.Proofs.YtdobfmlmenaajaaGreatDoor
open Go.RowKit Tryz
open _root_.Int renaming tmod→fo
open _root_.Option renaming none→ab
set_option maxHeartbeats 6400000
set_option maxRecDepth 4096
set_option linter.all false
attribute [local go_sem] Nat.reduceAdd Nat.reduceEqDiff Nat.reduceLeDiff Nat.reduceLT reduceCtorEq Int.ofNat_lt decide_true decide_false Int.zero_le_ofNat
attribute [local go_sem ↓] reduceIte
variable{B:Int}{b es k m n o:Nat}{f:Nat->Int}{g:Nat->Nat}{E E':Nat->Nat->AV}{S S1:St}{A:aI}
def Jj(h:∀i,i<n->0<=f i/\f i<=B):0<=ay n f/\ay n f<=n*B:=by
 induction n with
 | zero=>simp[ay]
 | succ n ih =>
  have a:=ih (fun i b=>h i om);have c:=h n om;simp only[ay];rw[eB,yS];simp only[wT,fA];omega
def ow{a b A:Int}(d:0<=a/\a<=A)(c:0<=b/\b<=B):0<=a*b/\a*b<=A*B :=
 ⟨cK d.1 c.1,cN d.2 c.2 c.1 om⟩
def FG(n m:Nat)(r v:Nat->Int)(u:n<=8)(w:1<=m)(h:∀i,i<n->0<=r i/\r i<=100000000)(k:∀i,i<n->0<=v i/\v i<=10000):PF 178 [aK n r,aK n v,.int .i64 m] (.int .i64 ((ay n fun j=>r j*v j)%m)):=by
 refine iH func178 ntmps178 results178 ?_;have e:¬((m:Int)=0):=om
 simp -dsimp only[go_sem,aK];refine aH (fun O S=>∃i:Nat,i<=n/\O 0=aK n r/\O 2=.int .i64 m/\O 7=.int .i64 (ay i fun j=>r j*v j)/\O 10=aK n v/\O 11=.int .i64 n/\O 12=.int .i64 i) (fun O S=>n-cj (O 12)) ?_ ?_
 .simp -dsimp only[go_sem,aK];exact⟨0,om,rfl,rfl⟩
 .rintro O S ⟨i,x,l,o,p,b,c,d⟩;have q:=Jj (n:=i) (f:=fun j=>r j*v j) (B:=100000000*10000) (fun j y=>ow (h j om) (k j om));have s:(i:Int)*(100000000*10000)<=8*(100000000*10000):=ca om om;by_cases a:i<n
  .have z:=ow (h i a) (k i a);have g:IntKind.i64.wrap (r i*v i)=r i*v i:=i64_in om om;have t:IntKind.i64.wrap ((ay i fun j=>r j*v j)+r i*v i)=ay (i+1) fun j=>r j*v j:=i64_in om om;simp -dsimp only[go_sem,aK,l,o,p,b,c,d,a,g,t,aP (om:i<1000000),cj]
   exact⟨⟨i+1,om,rfl,rfl⟩,om⟩
  .obtain rfl:i=n:=om
   have g:fo (ay i fun j=>r j*v j) m=(ay i fun j=>r j*v j)%m:=aL q.1;simp -dsimp only[go_sem,aK,l,o,p,b,c,d,a,e,g];exact VR.mf rfl
def zX(n m:Nat)(A:aI)(v:Nat->Int)(u:n<=8)(w:1<=m)(x:m<=100000000)(y:∀i j,i<n->j<n->0<=A i j/\A i j<=100000000)(g:∀i,i<n->0<=v i/\v i<=10000):PF 180 [az n n A,aK n v,.int .i64 m] (.int .i64 (eX n A v n%m)):=by
 refine iH func180 ntmps180 results180 ?_;have h:¬((m:Int)=0):=om
 simp -dsimp only[go_sem,aK,az];refine aH (fun O S=>∃i:Nat,i<=n/\O 0=az n n A/\O 1=aK n v/\O 2=.int .i64 m/\O 7=.int .i64 (ay i fun i=>(ay n fun j=>A i j*v j)%m*v i)/\O 10=aK n v/\O 11=.int .i64 n/\O 12=.int .i64 i) (fun O S=>n-cj (O 12)) ?_ ?_
 .simp -dsimp only[go_sem,aK,az];exact⟨0,om,rfl,rfl⟩
 .rintro O S ⟨i,F,l,o,p,q,c,d,e⟩;have s:∀j,0<=(ay n fun k=>A j k*v k)%m/\(ay n fun k=>A j k*v k)%m<=100000000:=fun j=>by
   have z:=aW (ay n fun k=>A j k*v k) (show(m:Int)≠0 by omega)
   have G:=aV (ay n fun k=>A j k*v k) (show(0:Int)<m by omega)
   omega
  have C:=Jj (n:=i) (f:=fun i=>(ay n fun j=>A i j*v j)%m*v i) (B:=100000000*10000) (fun j t=>ow (s j) (g j om));have D:(i:Int)*(100000000*10000)<=8*(100000000*10000):=ca om om;by_cases b:i<n
  .have z:=ow (s i) (g i b);have r:IntKind.i64.wrap ((ay n fun j=>A i j*v j)%m*v i)=(ay n fun j=>A i j*v j)%m*v i:=i64_in om om;have E:IntKind.i64.wrap ((ay i fun i=>(ay n fun j=>A i j*v j)%m*v i)+(ay n fun j=>A i j*v j)%m*v i)=ay (i+1) fun i=>(ay n fun j=>A i j*v j)%m*v i:=i64_in om om;simp -dsimp only[go_sem,aa,aK,az,l,o,p,q,c,d,e,b];refine(FG n m (A i) v u w (fun j t=>y i j b t) g).call ?_;simp -dsimp only[go_sem,aK,az,l,o,p,q,c,d,e,r,E,aP (om:i<1000000),cj]
   exact⟨⟨i+1,om,rfl,rfl⟩,om⟩
  .obtain rfl:i=n:=om
   have r:fo (ay i fun a=>(ay i fun j=>A a j*v j)%m*v a) m=eX i A v i%m:=by
    rw[aL C.1];unfold eX;exact pe i _ _ m fun a _=>by rw[fX,lz _ (jf _),<-fX]
   simp -dsimp only[go_sem,aa,aK,az,l,o,p,q,c,d,e,b,h,r];exact VR.mf rfl

structure fz(o e es:Nat)(S1 S:St)(b:Nat)(g:Nat->Nat)(n m k:Nat)(E:Nat->Nat->AV):Prop where
 ext:ft S1 S
 new:S1 b=ab
 outer:bM S b o 1 n (fun i=>if i<k then .sl es (g i) 0 m else .nil)
 row:∀i,i<k->bM S (g i) e es m (E i)
 rnew:∀i,i<k->S1 (g i)=ab
 inj:∀i j,i<k->j<k->g i=g j->i=j
def fz.init{e:Nat}(c:S1 b=ab){n m:Nat}{z:Nat->AV}(d:∀i,i<n->z i=.nil)(g:Nat->Nat)(E:Nat->Nat->AV):fz o e es S1 (S1.upd b ⟨o,1,n,z⟩) b g n m 0 E :=
 ⟨(ft.refl S1).upd c _,c,bM.here fun i a=>by rw[af om];exact d i a,fun i a=>om,fun i a=>om,fun i j a=>om⟩
def fz.ne{e:Nat}(h:fz o e es S1 S b g n m k E)(a:o≠e){i:Nat}(c:i<k):b≠g i:=bM.ne h.outer (h.row i c) a
def fz.push{e:Nat}(h:fz o e es S1 S b g n m k E)(l:o≠e){c:Nat}(a:S c=ab){g':Nat->AV}(q:S b=some ⟨o,1,n,g'⟩)(z:Nat->AV) :
  fz o e es S1 ((S.upd c ⟨e,es,m,z⟩).upd b ⟨o,1,n,bW g' k (.sl es c 0 m)⟩) b (fun i=>if i=k then c else g i) n m (k+1) (fun i=>if i=k then z else E i):=by
 have p:b≠c:=by rintro rfl;rw[q]at a;cases a
 have d:=h.ext.none a;obtain⟨w,r,t⟩:=h.outer;rw[q]at r;cases r;refine⟨(h.ext.upd d _).upd h.new _,h.new,bM.here fun i f=>?_,fun i f=>?_,fun i f=>?_,fun i j f x e=>?_⟩
 .have:=t i f;grind [bW]
 .by_cases e:i=k
  .simp only[e,aQ];exact(bM.here fun _ _=>rfl).upd (aj p) _
  .simp only[e,aS];have s:=h.row i om;exact(s.upd (bM.fresh s a) _).upd (aj (h.ne l om)) _
 .by_cases e:i=k
  .simp only[e,aQ];exact d
  .simp only[e,aS];exact h.rnew i om
 .by_cases u:i=k<;>by_cases v:j=k<;>simp only[u,v,aQ,aS]at e ⊢
  .exact absurd e.symm (bM.fresh (h.row j om) a)
  .exact absurd e (bM.fresh (h.row i om) a)
  .exact h.inj i j om om e
def fz.put{e:Nat}(h:fz o e es S1 S b g n m k E)(d:o≠e){i:Nat}(f:i<k){g':Nat->AV}(q:S (g i)=some ⟨e,es,m,g'⟩)(j:Nat)(v:AV) :
  fz o e es S1 (S.upd (g i) ⟨e,es,m,bW g' j v⟩) b g n m k (fun a c=>if a=i/\c=j then v else E a c):=by
 refine⟨h.ext.upd (h.rnew i f) _,h.new,h.outer.upd (h.ne d f) _,fun a l=>?_,h.rnew,h.inj⟩;by_cases e:a=i
 .subst e;obtain⟨u,p,r⟩:=h.row a l;rw[q]at p;cases p;refine bM.here fun c s=>?_;have:=r c s;simp only[bW]
  grind
 .refine((h.row a l).upd (fun t=>e (h.inj a i l f t)) _).congr fun c _=>?_;simp[e]
def fz.congr{e:Nat}(h:fz o e es S1 S b g n m k E)(c:∀i j,i<k->j<m->E i j=E' i j):fz o e es S1 S b g n m k E' :=
 ⟨h.ext,h.new,h.outer,fun i a=>(h.row i a).congr fun j d=>c i j a d,h.rnew,h.inj⟩
def fz.imat(h:fz 29 2 1 S1 S b g n m n E)(c:∀i j,i<n->j<m->E i j=.int .i64 (A i j)):jd S1 S b g n m A :=
 ⟨⟨h.outer.congr fun i a=>by rw[ai a],fun i a=>(h.row i a).congr fun j d=>c i j a d,h.inj⟩,h.ext,h.new,h.rnew⟩
def fz.mat(h:fz 59 50 2 S1 S b g n m n E)(c:∀i j,i<n->j<m->E i j=.big (A i j)):iR S1 S b g n m A :=
 ⟨⟨h.outer.congr fun i a=>by rw[ai a],fun i a=>(h.row i a).congr fun j d=>c i j a d,h.inj⟩,h.ext,h.new,h.rnew⟩
def fz.other{e:Nat}(h:fz o e es S1 S b g n m k E){S':St}(a:ft S S'):fz o e es S1 S' b g n m k E :=
 ⟨h.ext.trans a,h.new,a.has h.outer,fun i c=>a.has (h.row i c),h.rnew,h.inj⟩
def fz.upd{e:Nat}(h:fz o e es S1 S b g n m k E){c:Nat}(d:S1 c=ab)(f:b≠c)(j:∀i,i<k->g i≠c)(X:eS):fz o e es S1 (S.upd c X) b g n m k E :=
 ⟨h.ext.upd d _,h.new,h.outer.upd f _,fun i a=>(h.row i a).upd (j i a) _,h.rnew,h.inj⟩
def Hb{t e:Nat}(l:Nat){a:Int}{g:Nat->AV}{k:IntKind}{K:AV->Prop}(b:dJ t=some e)(c:es=bZ e)(d:a=(l:Int))(f:l<=n)(h:K (.lst es (n-l) (fun j=>g (l+j)))):lj t (.lst es n g) (some (.int k a)) ab ab K:=by
 unfold lj;rw[b];exact⟨c,l,n,d,rfl,trivial,f,ae _,h⟩

end Go.Proofs.YtdobfmlmenaajaaGreatDoor
