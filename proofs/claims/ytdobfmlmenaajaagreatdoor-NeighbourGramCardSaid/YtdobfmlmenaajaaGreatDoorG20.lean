/-
  Lemmas for NeighbourGram.
-/
import Derived.Test.YtdobfmlmenaajaaGreatDoorG19
namespace Go.Proofs.YtdobfmlmenaajaaGreatDoor
open Go.RowKit Tryz
open _root_.Int renaming tmod→eN
open _root_.Option renaming none→ab
set_option maxHeartbeats 6400000
set_option maxRecDepth 4096
set_option linter.all false
attribute [local go_sem] Nat.reduceAdd Nat.reduceEqDiff Nat.reduceLeDiff Nat.reduceLT reduceCtorEq Int.ofNat_lt decide_true decide_false Int.zero_le_ofNat
attribute [local go_sem ↓] reduceIte
variable{x:AV}{K:AV->St->Prop}{D:Int}{c j k n p:Nat}{g v w:Nat->Nat}{V:Nat->Nat->Nat}{S:St}{H:aJ}
structure fN(n:Nat)(H:aJ):Prop where
 one:1<=n
 eight:n<=8
 red:KQ H n
 small:det n H<=10000
def fN.redB(h:fN n H):(∀i j,i<n->j<n->H i j=H j i)/\AG H n:=⟨h.red.pd.sym,⟨h.red.pd.pos,h.small,h.red.rows⟩⟩
def KE(S:St)(M d k L:Nat)(nums:Nat->Int)(Lb:Nat)(base:Nat->AV)(c:1<=M)(e:M<=5)(q:d<256)(s:k<256)(hnums:∀i,i<L->-128<=nums i/\nums i<=127) :
  cE 38 [Oy d k L nums Lb base,.int .i64 M] S (fun r S'=>∃n H,fN n H/\n<=M/\r=aD n n H/\eQ S S'):=by
 refine jr func38 ntmps38 results38 ?_;simp -dsimp only[go_sem,aa,Oy,ee,bH,bW,cC,cW];refine aG.intro fun u t=>?_;simp -dsimp only[go_sem,bI,bB];refine(Nb M d k L nums Lb base c e q s hnums _ _ (cI _ _)).mono ?_;rintro r S1 ⟨b,g,n,A,⟨a,f⟩,rfl,o⟩;obtain⟨R,p,h⟩:=Fv n A ⟨⟨a.sym,a.pos⟩,a.one,a.five,fun i j l m=>by have:=a.ent i j l m;omega,a.small⟩
 simp -dsimp only[go_sem,aa];refine(B2 n n A a.one (by have:=a.five;omega) a.one (by have:=a.five;omega) (fun i j l m=>P5 (a.ent i j l m))).spec (fD.cons o.1.vr.va fD.nil) ?_
 simp -dsimp only[go_sem,aa];refine h.call ?_;simp -dsimp only[go_sem];exact⟨n,gT A n R,⟨a.one,by have:=a.five;omega,p.red,by rw[p.inv.dn];exact a.small⟩,f,rfl,((eQ.refl S).upd t _).trans o.2.1⟩
def oG(n:Nat)(f g:Nat->Int)(m:Int)(h:∀i,i<n->f i%m=g i%m):az n f%m=az n g%m:=by
 induction n with
 | zero=>rfl
 | succ n ih =>
  simp only[az];rw[QO,ih (fun i a=>h i om),h n om,<-QO]
def eJ(n:Nat)(H:aJ)(v:Nat->Int)(i:Nat):Int:=az i fun i=>(az n fun j=>H i j*v j)*v i
def By(n m:Nat)(H:aJ)(v:Nat->Int)(w:n<=8)(x:1<=m)(f:m<=2147483647):PF 76 [aD n n H,aV n v,.int .i64 m] (.int .i64 (eJ n H v n%m)):=by
 refine iQ func76 ntmps76 results76 ?_;have g:¬((m:Int)=0):=om
 simp -dsimp only[go_sem,aa];refine(zg n m H v w x f).call ?_;simp -dsimp only[go_sem,aV];refine aH (fun O S=>∃i:Nat,i<=n/\O 1=aV n v/\O 2=.int .i64 m/\O 7=.int .i64 (eJ n H v i%m)/\O 13=aV n (fun i=>(az n fun j=>H i j*v j)%m)/\O 14=.int .i64 n/\O 15=.int .i64 i) (fun O S=>n-ca (O 15)) ?_ ?_
 .simp -dsimp only[go_sem,aV];exact⟨0,om,by simp[eJ,az],rfl⟩
 .rintro O S ⟨i,A,h,k,l,a,b,c⟩;by_cases d:i<n
  .have e:(0:Int)<m:=om
   obtain⟨s,o⟩:∃s,s=az n fun j=>H i j*v j:=⟨_,rfl⟩;have y:=aU s (show(m:Int)≠0 by omega)
   have B:=aS s e;have p:=aU (v i) (show(m:Int)≠0 by omega)
   have C:=aS (v i) e;have z:=cZ y p;have D:s%m*(v i%m)<=2147483647*2147483647:=cB om om p om;have q:IntKind.i64.wrap (s%m*(v i%m))=s%m*(v i%m):=i64_in om om;have r:eN (s%m*(v i%m)) m=(s%m*(v i%m))%m:=aK z;have E:=aU (eJ n H v i) (show(m:Int)≠0 by omega)
   have F:=aS (eJ n H v i) e;have G:=aU (s%m*(v i%m)) (show(m:Int)≠0 by omega)
   have I:=aS (s%m*(v i%m)) e;have t:IntKind.i64.wrap (eJ n H v i%m+(s%m*(v i%m))%m)=eJ n H v i%m+(s%m*(v i%m))%m:=i64_in om om;have u:eN (eJ n H v i%m+(s%m*(v i%m))%m) m=eJ n H v (i+1)%m:=by
    rw[aK om,zL];simp only[eJ,az,o]
   simp -dsimp only[go_sem,aa,aV,h,k,l,a,b,c,d];refine(Dp e om).call ?_;rw[o]at q r t u;simp -dsimp only[go_sem,aV,h,k,l,a,b,c,g,q,r,t,u,aT (om:i<1000000),ca]
   exact⟨⟨i+1,om,rfl,rfl⟩,om⟩
  .obtain rfl:i=n:=om
   simp -dsimp only[go_sem,aa,aV,h,k,l,a,b,c,d];exact VR.mf rfl
def ix(v:Nat->Int):Nat->Int
 | 0=>0
 | j+1=>if ix v j=0 then v j else ix v j
def z0(n p:Nat)(H:aJ)(v:Nat->Int):Prop:=(∀i,i<n->0<=v i/\v i<p)/\ix v n=1/\eJ n H v n%p=0
def qn(n m:Nat)(H:aJ)(v:Nat->Int)(β:Bool)(y:n<=8)(z:1<=m)(u:m<=2147483647)(hβ:β=true↔z0 n m H v):PF 75 [aD n n H,.int .i64 m,aV n v] (.bool β):=by
 refine iQ func75 ntmps75 results75 ?_;simp -dsimp only[go_sem,aV,aD,show((n:Int) != n)=false by simp]
 refine aH (fun O S=>∃i:Nat,i<=n/\(∀k,k<i->0<=v k/\v k<m)/\O 0=aD n n H/\O 1=.int .i64 m/\O 2=aV n v/\O 7=.int .i64 (ix v i)/\O 15=aV n v/\O 16=.int .i64 n/\O 17=.int .i64 i) (fun O S=>n-ca (O 17)) ?_ ?_
 .simp -dsimp only[go_sem,aV,aD];exact⟨0,om,fun k A=>om,rfl,rfl⟩
 .rintro O S ⟨i,B,r,g,j,l,o,b,c,d⟩;by_cases a:i<n
  .by_cases s:v i<0
   .simp -dsimp only[go_sem,aa,aV,aD,g,j,l,o,b,c,d,a,s];rw[dW hβ fun h=>by have:=h.1 i a;omega]
    exact VR.mf rfl
   by_cases w:(m:Int)<=v i
   .simp -dsimp only[go_sem,aa,aV,aD,g,j,l,o,b,c,d,a,s,w];rw[dW hβ fun h=>by have:=h.1 i a;omega]
    exact VR.mf rfl
   have p:∀k,k<i+1->0<=v k/\v k<m:=fun k A=>by
    by_cases e:k=i
    .rw[e];omega
    .exact r k om
   by_cases f:ix v i=0
   .have x:ix v (i+1)=v i:=by simp[ix,f]
    simp -dsimp only[go_sem,aa,aV,aD,g,j,l,o,b,c,d,a,s,w,f,show((0:Int)==0)=true from rfl,aT (om:i<1000000),ca]
    exact⟨⟨i+1,om,p,by rw[x],rfl⟩,om⟩
   .have x:ix v (i+1)=ix v i:=by simp[ix,f]
    have q:(ix v i==0)=false:=by simp[f]
    simp -dsimp only[go_sem,aa,aV,aD,g,j,l,o,b,c,d,a,s,w,q,aT (om:i<1000000),ca]
    exact⟨⟨i+1,om,p,by rw[x],rfl⟩,om⟩
  .obtain rfl:i=n:=om
   by_cases f:ix v i=1
   .simp -dsimp only[go_sem,aa,aV,aD,g,j,l,o,b,c,d,a,f,show((1:Int)==1)=true from rfl];refine(By i m H v y z u).call ?_;by_cases t:eJ i H v i%(m:Int)=0
    .simp -dsimp only[go_sem,aV,aD,g,j,l,o,f,t,show((1:Int)==1)=true from rfl,show((0:Int)==0)=true from rfl];rw[hβ.2 ⟨r,f,t⟩];exact VR.mf rfl
    .simp -dsimp only[go_sem,aV,aD,g,j,l,o,f,show(eJ i H v i%(m:Int)==0)=false by simpa using t,show((1:Int)==1)=true from rfl]
     rw[dW hβ fun h=>t h.2.2];exact VR.mf rfl
   .have q:(ix v i==1)=false:=by simp[f]
    simp -dsimp only[go_sem,aV,aD,g,j,l,o,b,c,d,a,q];rw[dW hβ fun h=>f h.2.1];exact VR.mf rfl
def yG(n l m:Nat)(H:aJ)(v:Nat->Int)(β:Bool)(b:n<=8)(c:1<=m)(a:m<=2147483647)(hβ:β=true↔l=n/\z0 n m H v):PF 75 [aD n n H,.int .i64 m,aV l v] (.bool β):=by
 by_cases e:l=n
 .subst e;exact qn l m H v β b c a (hβ.trans ⟨fun h=>h.2,fun h=>⟨rfl,h⟩⟩)
 .refine iQ func75 ntmps75 results75 ?_;simp -dsimp only[go_sem,aV,aD,show((l:Int) != n)=true by simp;omega]
  rw[dW hβ fun h=>e h.1];exact VR.mf rfl
def rn(n m:Nat)(H:aJ)(v:Nat->Int)(b:n<=8)(c:1<=m)(a:m<=2147483647)(d:∀i,i<n->0<=v i/\v i<m):PF 75 [aD n n H,.int .i64 m,aV n v] (.bool (ix v n==1&&eJ n H v n%m==0)) :=
 qn n m H v _ b c a (by rw[au,ue,ue];exact⟨fun h=>⟨d,h⟩,fun h=>h.2⟩)

def mR(e:2<=p)(f:p<25)(a:¬p%2=0∨p<4)(b:¬p%3=0∨p<9)(c:¬p%4=0∨p<16):sA p:=by
 refine⟨e,fun d g i=>?_⟩;have:d<5:=by
  rcases aA d 5 with h|h
  .exact h
  .have:5*5<=d*d:=bs h h;omega
 have:d=2∨d=3∨d=4:=om
 rcases this with rfl|rfl|rfl<;>omega
def kX(D:Int)(p:Nat):Prop:=3<=p/\p%2=1/\sA p/\¬D%p=0
def kX.pr(h:kX D p)(a:p<=9973):sn p:=⟨h.2.2.1,h.1,a⟩
open Classical in
noncomputable def gc(D:Int):Nat->Nat
 | 0=>0
 | p+1=>gc D p+if kX D p then 1 else 0
open Classical in
def BE(D:Int)(q:Nat)(f:Nat)(h:sA q/\3<=q/\q%2=1){k:Nat}(c:k<=gc D q)(a:f=if D%q=0 then 0 else 1):k+f<=gc D (q+1):=by
 simp only[gc,kX,a];by_cases b:D%(q:Int)=0<;>simp[b,h.1,h.2.1,h.2.2]<;>omega
def th(D:Int){p q:Nat}(h:p<=q){k:Nat}(a:k<=gc D p):k<=gc D q:=by
 induction q with
 | zero=>rw[show(0:Nat)=p by omega];exact a
 | succ q ih =>
  by_cases e:p=q+1
  .rw[<-e];exact a
  .exact bU (ih om) (by simp only[gc];omega)
def Sy(p:0<D)(q:D<=10000)(a b c d e:Nat)(f:Nat.Coprime a b)(g:Nat.Coprime (a*b) c)(i:Nat.Coprime (a*b*c) d)(j:Nat.Coprime (a*b*c*d) e)(r:10000<a*b*c*d*e) :
  ¬(D%(a:Int)=0/\D%(b:Int)=0/\D%(c:Int)=0/\D%(d:Int)=0/\D%(e:Int)=0):=by
 rintro⟨k,l,m,n,o⟩;have t:∀{x:Nat},D%(x:Int)=0->x∣D.natAbs:=fun h=>Int.ofNat_dvd_left.1 (dU h);have s:=AJ om (j.mul_dvd_of_dvd_of_dvd (i.mul_dvd_of_dvd_of_dvd (g.mul_dvd_of_dvd_of_dvd (f.mul_dvd_of_dvd_of_dvd (t k) (t l)) (t m)) (t n)) (t o));omega
open Classical in
def N4{a b c d e f:Prop}(m:¬(a/\b/\c/\d/\e))(n:¬(a/\b/\c/\d/\f))(o:¬(a/\b/\c/\e/\f))(p:¬(a/\b/\d/\e/\f))(q:¬(a/\c/\d/\e/\f))(r:¬(b/\c/\d/\e/\f)){g h i j k l:Nat}
  (s:a∨1<=g) (t:b∨1<=h) (u:c∨1<=i) (v:d∨1<=j) (w:e∨1<=k) (x:f∨1<=l):2<=0+g+h+i+j+k+l:=by
 by_cases a<;>by_cases b<;>by_cases c<;>by_cases d<;>by_cases e<;>by_cases f<;>simp_all<;>omega
def Rx(a:0<D)(b:D<=10000):2<=gc D 18:=by
 have j:sA 3:=mR om om om om om;have k:sA 5:=mR om om om om om;have l:sA 7:=mR om om om om om;have c:sA 11:=mR om om om om om;have d:sA 13:=mR om om om om om;have e:sA 17:=mR om om om om om;have m:=BE D 3 _ ⟨j,om,om⟩ (jw _) rfl
 have n:=BE D 5 _ ⟨k,om,om⟩ (th D (om:3+1<=5) m) rfl
 have o:=BE D 7 _ ⟨l,om,om⟩ (th D (om:5+1<=7) n) rfl
 have f:=BE D 11 _ ⟨c,om,om⟩ (th D (om:7+1<=11) o) rfl
 have g:=BE D 13 _ ⟨d,om,om⟩ (th D (om:11+1<=13) f) rfl
 have i:=BE D 17 _ ⟨e,om,om⟩ (th D (om:13+1<=17) g) rfl
 refine bU ?_ i;have t:∀q:Nat,D%(q:Int)=0∨1<=(if D%(q:Int)=0 then 0 else 1:Nat):=fun q=>by
  by_cases h:D%(q:Int)=0
  .exact bM h
  .right;simp[h]
 exact N4 (Sy a b 3 5 7 11 13 dc dc dc dc dc) (Sy a b 3 5 7 11 17 dc dc dc dc dc)
  (Sy a b 3 5 7 13 17 dc dc dc dc dc) (Sy a b 3 5 11 13 17 dc dc dc dc dc)
  (Sy a b 3 7 11 13 17 dc dc dc dc dc) (Sy a b 5 7 11 13 17 dc dc dc dc dc)
  (t 3) (t 5) (t 7) (t 11) (t 13) (t 17)
def IK(a:p%2=1):gc D (p+2)=gc D (p+1):=by
 have:¬kX D (p+1):=fun h=>by have:=h.2.1;omega
 simp[gc,this]
def fN.ent(h:fN n H):Hn n H:=fun i j a b=>by
 have:=h.red.entry h.eight a b;omega
def fN.det(h:fN n H):0<det n H/\det n H<=10000:=⟨h.red.pd.2 n (ae _),h.small⟩
def gpI(D:Int)(p s:Nat):Prop:=3<=p/\p<=17/\p%2=1/\gc D p+s<=1
def z6(S:St)(n:Nat)(H:aJ)(k:Nat)(b:fN n H)(v:k<256):cE 39 [aD n n H,.int .u8 k] S (fun r S'=>∃p:Nat,kX (det n H) p/\p<=17/\r=.int .i64 p/\S'=S):=by
 refine jr func39 ntmps39 results39 ?_;have m:=b.eight;have o:eN (k:Int) 2=((k%2:Nat):Int):=by rw[qb]<;>rfl
 have q:IntKind.i64.wrap ((k%2:Nat):Int)=((k%2:Nat):Int):=i64_in om om;simp -dsimp only[go_sem,o,q,show ¬((2:Int)=0) by decide]
 have w:=Rx b.det.1 b.det.2;refine aH (fun O S'=>∃p s:Nat,gpI (det n H) p s/\O 0=aD n n H/\O 5=.int .i64 s/\O 6=.int .i64 p/\S'=S) (fun O S=>18-ca (O 6)) ?_ ?_
 .simp -dsimp only[go_sem];refine⟨3,k%2,⟨om,om,om,?_⟩,rfl,rfl⟩
  have:gc (det n H) 3=0:=by simp[gc,kX]
  omega
 .rintro O S' ⟨p,s,⟨j,e,c,t⟩,f,l,g,rfl⟩;have wp:IntKind.i64.wrap ((p:Int)+2)=((p+2:Nat):Int):=dM om om;rcases io (kX (det n H) p)with d|d
  .simp -dsimp only[go_sem,aa,f,g];refine(Ds n p H b.one om b.ent b.det true (by simp only[true_iff];exact⟨pY.of (d.pr om),d.2.2.2⟩)).call ?_
   have a:gc (det n H) (p+1)=gc (det n H) p+1:=by simp[gc,d]
   by_cases u:s=0
   .subst u;simp -dsimp only[go_sem,f,l,g,show((((0:Nat)):Int)==0)=true from rfl];exact⟨p,d,e,rfl⟩
   .obtain rfl:s=1:=om
    have i:p+2<=17:=by
     rcases aA p 16 with h|h
     .omega
     .obtain rfl:p=17:=om
      rw[show(17:Nat)+1=18 from rfl]at a;omega
    simp -dsimp only[go_sem,f,l,g,show((((1:Nat)):Int)==0)=false from rfl,wp,show IntKind.i64.wrap ((((1:Nat)):Int)-1)=((0:Nat):Int)from dM om om,ca];exact⟨⟨p+2,0,⟨om,om,om,by rw[IK c,a];omega⟩,rfl,rfl⟩,om⟩
  .simp -dsimp only[go_sem,aa,f,g];refine(Ds n p H b.one om b.ent b.det false (by simp only[bD,Tn];exact fun h=>d ⟨j,c,h.1.2.2,h.2⟩)).call ?_
   have a:gc (det n H) (p+1)=gc (det n H) p:=by simp[gc,d]
   have i:p+2<=17:=by
    rcases aA p 16 with h|h
    .omega
    .obtain rfl:p=17:=om
     rw[show(17:Nat)+1=18 from rfl]at a;omega
   simp -dsimp only[go_sem,f,l,g,wp,ca];exact⟨⟨p+2,s,⟨om,om,om,by rw[IK c,a];omega⟩,rfl,rfl⟩,om⟩

def n9(p:Nat)(v:Nat->Nat):Nat->Nat
 | 0=>0
 | k+1=>n9 p v k*p+v k
def Ck(h:∀i,i<k->v i<p):n9 p v k<p^k:=by
 induction k with
 | zero=>simp[n9]
 | succ k ih =>
  have a:=ih (fun i c=>h i om);have d:=h k om;simp only[n9];have b:(n9 p v k+1)*p<=p^k*p:=bs a (ae _);rw[dE,mA]at b;rw[bQ];omega
def yo(h:∀i,i<k->v i=w i):n9 p v k=n9 p w k:=by
 induction k with
 | zero=>rfl
 | succ k ih=>simp only[n9];rw[ih (fun i a=>h i om),h k om]
theorem ut{p:Nat}{v w:Nat->Nat}{i:Nat}(a:∀k,k<i->w k=v k)(b:w i=v i+1):∀n,(∀k,i<k->k<i+1+n->w k=0/\v k<p)->n9 p v (i+1+n)<n9 p w (i+1+n)
 | 0,_=>by
  simp only[n9];rw[yo (p:=p) a,b];omega
 | n+1,h=>by
  have ih:=ut a b n (fun k c d=>h k c om);have e:=h (i+1+n) om om;rw[<-kD];simp only[n9,e.1,cu];have f:(n9 p v (i+1+n)+1)*p<=n9 p w (i+1+n)*p:=bs ih (ae _);rw[dE,mA]at f;omega
structure lG(n p:Nat)(H:aJ)(v:Nat->Nat):Prop where
 lt:∀i,i<n->v i<p
 lead:ix (fun i=>v i) n=1
 norm:eJ n H (fun i=>v i) n%p=0
structure FF(S0 S:St)(n p:Nat)(H:aJ)(j:Nat)(x:AV)(c:Nat)(g:Nat->Nat)(V:Nat->Nat->Nat)(w:Nat->Nat):Prop where
 list:cV 29 1 S0 S x j (fun i=>.sl 1 (g i) 0 n)
 rows:∀i,i<j->bJ S (g i) 2 1 n (fun k=>.int .i64 (V i k))/\S0 (g i)=ab/\g i≠c
 good:∀i,i<j->lG n p H (V i)
 now:bJ S c 2 1 n (fun k=>.int .i64 (w k))
 new:S0 c=ab
def FF.set{S0:St}(h:FF S0 S n p H j x c g V w){g':Nat->AV}(l:S c=some ⟨2,1,n,g'⟩){i z:Nat} :
  FF S0 (S.upd c ⟨2,1,n,bR g' i (.int .i64 z)⟩) n p H j x c g V (fun k=>if k=i then z else w k):=by
 refine⟨h.list.upd h.new (fun d o e=>h.list.other l om (e▸o)) _,fun a q=>?_,h.good,?_,h.new⟩
 .obtain⟨b,f,m⟩:=h.rows a q;exact⟨b.upd m _,f,m⟩
 .refine bJ.here fun k r=>?_;obtain⟨s,b,f⟩:=h.now;rw[l]at b;cases b;simp only[bR];split
  .rfl
  .exact f k r
def digI(n p k:Nat)(v w:Nat->Nat):Prop:=k<=n/\(∀i,i<n->v i<p)/\(∀i,i<k->w i=v i)/\∀i,k<=i->i<n->w i=0
def allH(n p j:Nat)(v:Nat->Nat):Prop:=(∀i,i<n->v i<p)/\j<=n9 p v n
noncomputable def Rl(n p:Nat)(S:St)(x:AV):Nat:=match x with
 | .sl _ c _ _=>(match S c with
  | some X=>p^n-n9 p (fun i=>ca (X.g i)) n
  | ab=>0)
 | _=>0
def xD(h:bJ S c 2 1 n (fun k=>.int .i64 (w k))):Rl n p S (.sl 1 c 0 n)=p^n-n9 p w n:=by
 obtain⟨g,a,b⟩:=h;simp only[Rl,a];rw[yo (w:=w) fun i d=>by rw[b i d];simp[ca]]
def AllR(S0 S:St)(n p:Nat)(H:aJ)(r:AV):Prop:=∃j c g V w,j<=65536/\FF S0 S n p H j r c g V w
def JW(x:AV):Nat:=match x with
 | .int _ z=>(z+1).toNat
 | _=>0
def Kg(h:bJ S c 2 1 n (fun k=>.int .i64 (w k)))(d:0<n)(p:n<=1000)
  (e:∀b h',S b=ab->(∀k,k<n->h' k=.int .i64 (w k))->K (.sl 1 b 0 n) (S.upd b ⟨2,1,n,h'⟩)):fG 29 29 .nil (.sl 1 c 0 n) S K:=by
 obtain⟨g,f,a⟩:=h;have i:Av S (.sl 1 c 0 n)=some (1,n,fun j=>g (0+j),some c):=by simp[Av,f]
 unfold fG;rw[show dB 29=some 2 from rfl,i];refine⟨rfl,rfl,rfl,d,fun j l=>?_,om,fun b m=>e b _ m fun k o=>?_⟩
 .show eg 1 (g (0+j));rw[aB,a j l];simp[eg]
 .show g (0+k)=_;rw[aB,a k o]
def Np(S0:St)(n p:Nat)(H:aJ)(h1:1<=n)(h2:n<=8)(hp:2<=p)(hp2:p<=900)(hpn:p^n<=65536) :
  cE 92 [aD n n H,.int .i64 p] S0 (fun r S'=>AllR S0 S' n p H r):=by
 refine jr func92 ntmps92 results92 ?_;simp -dsimp only[go_sem,aD]
 repeat refine an ?_
 refine aG.intro fun W P=>?_;simp only[go_sem];refine aH (fun O S=>∃j x c g V w,FF S0 S n p H j x c g V w/\allH n p j w/\O 0=aD n n H/\O 1=.int .i64 p/\O 5=x/\O 6=.sl 1 c 0 n) (fun O S=>Rl n p S (O 6)) ?_ ?_
 .simp only[go_sem,aD];refine⟨0,_,W,fun _=>0,fun _ _=>0,fun _=>0,⟨cV.nil ((eQ.refl S0).upd P _) _,fun i m=>om,fun i m=>om,bJ.here fun i m=>rfl,P⟩,⟨fun i m=>by show 0<p;omega,om⟩,rfl,rfl⟩
 .rintro O S ⟨j,x,c,g,V,w,s,⟨t,hj⟩,K,L,M,N⟩;have hvl:=Ck (p:=p) t;simp -dsimp only[*,go_sem,aa,aD];have hI:tT S c n (fun k=>w k):=s.now;refine(rn n p H (fun k=>w k) h2 om om (fun i m=>by have:=t i m;omega)).spec (fD.same (fD.same (fD.i64s hI fD.nil))) ?_
  rcases io (lG n p H w)with Q|Q
  .have o:(ix (fun k=>(w k:Int)) n==1&&eJ n H (fun k=>(w k:Int)) n%(p:Int)==0)=true:=by simp only[Q.lead,Q.norm];rfl
   simp -dsimp only[*,go_sem,aD];refine Kg s.now om om ?_;intro d h' R hh;simp -dsimp only[*,go_sem];refine aG.intro fun b18 u=>?_;have n18d:=(ag u).1;have X:c≠d:=s.now.fresh R;simp -dsimp only[*,go_sem];have y:=(s.list.upd (s.list.1.none R) (s.list.fresh R) ⟨2,1,n,h'⟩);have E:=y.fresh u;refine cV.app29 (y.upd (y.1.none u) E _) om (show eg 1 (.sl 1 d 0 n) by simp[eg]) (bO ⟨_,_,_,rfl,ci,rfl,fun h=>E _ h rfl⟩) ?_
   intro c' S' Y Z hk3;have F:FF S0 S' n p H (j+1) (.sl 1 c' 0 (j+1)) c (fun i=>if i=j then d else g i) (fun i=>if i=j then w else V i) w:=by
    have G:=y.upd (y.1.none u) E ⟨29,1,1,fun j=>[AV.sl 1 d 0 n].getD j AV.any⟩;have keep1:∀{b:Nat} {gg:Nat->AV},bJ (S.upd d ⟨2,1,n,h'⟩) b 2 1 n gg->bJ S' b 2 1 n gg:=fun {b gg} o=>by
     obtain⟨gb,U,q2⟩:=o.upd (o.fresh u) ⟨29,1,1,fun j=>[AV.sl 1 d 0 n].getD j AV.any⟩;exact⟨gb,Z b _ U (G.other U om),q2⟩
    have keep:∀{b:Nat} {gg:Nat->AV},bJ S b 2 1 n gg->bJ S' b 2 1 n gg:=fun {b gg} o=>keep1 (o.upd (o.fresh R) _);refine⟨Y.congr fun i m=>?_,fun i m=>?_,fun i m=>?_,keep s.now,s.new⟩
    .show(if i=j then AV.sl 1 d 0 n else AV.sl 1 (g i) 0 n)=AV.sl 1 (if i=j then d else g i) 0 n
     split<;>rfl
    .by_cases e:i=j
     .simp only[e,aO];exact⟨keep1 (bJ.here hh),s.list.1.none R,aj X⟩
     .simp only[e,aP];obtain⟨U,q2,q3⟩:=s.rows i om;exact⟨keep U,q2,q3⟩
    .by_cases e:i=j
     .simp only[e,aO];exact Q
     .simp only[e,aP];exact s.good i om
   generalize (fun i=>if i=j then d else g i)=g2 at F
   generalize (fun i=>if i=j then w else V i)=V2 at F
   have wn:IntKind.i64.wrap ((n:Int)-1)=(n:Int)-1:=i64_in om om;simp only[*,go_sem];refine aH (fun O S=>∃k w',FF S0 S n p H (j+1) (.sl 1 c' 0 (j+1)) c g2 V2 w'/\digI n p k w w'/\O 0=aD n n H/\O 1=.int .i64 p/\O 5=(.sl 1 c' 0 (j+1))/\O 6=.sl 1 c 0 n/\O 7=.int .i64 ((k:Int)-1)) (fun O S=>JW (O 7)) ?_ ?_
   .simp only[*,go_sem,aD];exact⟨n,w,F,⟨ae _,t,fun _ _=>rfl,fun i a b=>om⟩,rfl⟩
   .rintro O S2 ⟨k,w',f,⟨hk,hv,l,q⟩,K,L,M,N,I⟩;rcases aX k with rfl|hk0
    .simp only[*,go_sem,aa,aD,show((((0:Nat):Int)-1)<0) by decide,show ¬((0:Int)<=(((0:Nat):Int)-1)) by decide]
     exact⟨(j+1),c,_,_,_,om,f⟩
    .obtain⟨i,rfl⟩:∃i,k=i+1:=⟨k-1,om⟩
     rw[show(((i+1:Nat):Int)-1)=(i:Int) by omega]at I
     have m:i<n:=om
     obtain⟨g',C,u2⟩:=f.now;have T:g' i=.int .i64 (w i):=by rw[u2 i m];show AV.int .i64 (w' i:Nat)=_;rw[l i om]
     have wp:IntKind.i64.wrap ((p:Int)-1)=((p-1:Nat):Int):=dM om om;have hwi:=t i m;by_cases he:w i=p-1
     .have o:(((w i:Nat):Int)==((p-1:Nat):Int))=true:=by simp[he]
      have wi:IntKind.i64.wrap ((i:Int)-1)=(i:Int)-1:=i64_in om om;simp only[go_sem,aa,K,L,M,N,aD,I,m,C,T,wp,o,wi,JW];refine⟨⟨i,_,f.set C (i:=i) (z:=0),⟨om,hv,fun a D=>?_,fun a D J=>?_⟩,rfl⟩,om⟩
      .show(if a=i then 0 else w' a)=w a
       rw[af om,l a om]
      .show(if a=i then 0 else w' a)=0
       split
       .rfl
       .exact q a om J
     .have o:(((w i:Nat):Int)==((p-1:Nat):Int))=false:=by simp;omega
      have wi:IntKind.i64.wrap ((w i:Int)+1)=((w i+1:Nat):Int):=dM om om;have A:=f.set C (i:=i) (z:=w i+1);have hlt:n9 p w n<n9 p (fun k=>if k=i then w i+1 else w' k) n:=by
       have:=ut (p:=p) (v:=w) (w:=fun k=>if k=i then w i+1 else w' k) (i:=i) (fun k hk=>by show(if k=i then w i+1 else w' k)=w k;rw[af om,l k om]) sm (n-(i+1)) (fun k h3 h4=>⟨by show(if k=i then w i+1 else w' k)=0;rw[af om,q k om om],t k om⟩)
       rwa [(om:i+1+(n-(i+1))=n)]at this
      have B:∀a,a<n->(fun k=>if k=i then w i+1 else w' k) a<p:=fun a D=>by
       show(if a=i then w i+1 else w' a)<p
       split
       .omega
       .rcases aA a (i+1)with h|h
        .rw[l a h];exact t a D
        .rw[q a h D];omega
      have G:=Ck (p:=p) B;have m1:=xD (p:=p) s.now;have m2:=xD (p:=p) A.now;simp only[go_sem,aa,K,L,M,N,aD,I,m,C,T,wp,o,wi,(om:¬((i:Int)<0))]
      refine⟨⟨(j+1),_,c,_,_,_,A,⟨B,om⟩,sm⟩,?_⟩
      rw[m1,m2];omega
  .have o:(ix (fun k=>(w k:Int)) n==1&&eJ n H (fun k=>(w k:Int)) n%(p:Int)==0)=false:=by
    simp only[Bool.and_eq_false_iff,gS];exact dZ fun h=>Q ⟨t,dZ fun h5=>h (bM h5),dZ fun h5=>h (bO h5)⟩
   simp only[*,go_sem,aD];have wn:IntKind.i64.wrap ((n:Int)-1)=(n:Int)-1:=i64_in om om;simp only[go_sem,wn];refine aH (fun O S=>∃k w',FF S0 S n p H j x c g V w'/\digI n p k w w'/\O 0=aD n n H/\O 1=.int .i64 p/\O 5=x/\O 6=.sl 1 c 0 n/\O 7=.int .i64 ((k:Int)-1)) (fun O S=>JW (O 7)) ?_ ?_
   .simp only[*,go_sem,aD];exact⟨n,w,s,⟨ae _,t,fun _ _=>rfl,fun i a b=>om⟩,rfl⟩
   .rintro O S2 ⟨k,w',f,⟨hk,hv,l,q⟩,K,L,M,N,I⟩;rcases aX k with rfl|hk0
    .simp only[*,go_sem,aa,aD,show((((0:Nat):Int)-1)<0) by decide,show ¬((0:Int)<=(((0:Nat):Int)-1)) by decide]
     exact⟨j,c,_,_,_,om,f⟩
    .obtain⟨i,rfl⟩:∃i,k=i+1:=⟨k-1,om⟩
     rw[show(((i+1:Nat):Int)-1)=(i:Int) by omega]at I
     have m:i<n:=om
     obtain⟨g',C,u2⟩:=f.now;have T:g' i=.int .i64 (w i):=by rw[u2 i m];show AV.int .i64 (w' i:Nat)=_;rw[l i om]
     have wp:IntKind.i64.wrap ((p:Int)-1)=((p-1:Nat):Int):=dM om om;have hwi:=t i m;by_cases he:w i=p-1
     .have o:(((w i:Nat):Int)==((p-1:Nat):Int))=true:=by simp[he]
      have wi:IntKind.i64.wrap ((i:Int)-1)=(i:Int)-1:=i64_in om om;simp only[go_sem,aa,K,L,M,N,aD,I,m,C,T,wp,o,wi,JW];refine⟨⟨i,_,f.set C (i:=i) (z:=0),⟨om,hv,fun a D=>?_,fun a D J=>?_⟩,rfl⟩,om⟩
      .show(if a=i then 0 else w' a)=w a
       rw[af om,l a om]
      .show(if a=i then 0 else w' a)=0
       split
       .rfl
       .exact q a om J
     .have o:(((w i:Nat):Int)==((p-1:Nat):Int))=false:=by simp;omega
      have wi:IntKind.i64.wrap ((w i:Int)+1)=((w i+1:Nat):Int):=dM om om;have A:=f.set C (i:=i) (z:=w i+1);have hlt:n9 p w n<n9 p (fun k=>if k=i then w i+1 else w' k) n:=by
       have:=ut (p:=p) (v:=w) (w:=fun k=>if k=i then w i+1 else w' k) (i:=i) (fun k hk=>by show(if k=i then w i+1 else w' k)=w k;rw[af om,l k om]) sm (n-(i+1)) (fun k h3 h4=>⟨by show(if k=i then w i+1 else w' k)=0;rw[af om,q k om om],t k om⟩)
       rwa [(om:i+1+(n-(i+1))=n)]at this
      have B:∀a,a<n->(fun k=>if k=i then w i+1 else w' k) a<p:=fun a D=>by
       show(if a=i then w i+1 else w' a)<p
       split
       .omega
       .rcases aA a (i+1)with h|h
        .rw[l a h];exact t a D
        .rw[q a h D];omega
      have G:=Ck (p:=p) B;have m1:=xD (p:=p) s.now;have m2:=xD (p:=p) A.now;simp only[go_sem,aa,K,L,M,N,aD,I,m,C,T,wp,o,wi,(om:¬((i:Int)<0))]
      refine⟨⟨j,_,c,_,_,_,A,⟨B,om⟩,sm⟩,?_⟩
      rw[m1,m2];omega

def LineR(S0 S:St)(n p:Nat)(H:aJ)(r:AV):Prop:=eQ S0 S/\(r=.tup [.nil,.bool false]∨∃d v,r=.tup [.sl 1 d 0 n,.bool true]/\bJ S d 2 1 n (fun k=>.int .i64 ((v k:Nat):Int))/\S0 d=ab/\lG n p H v)
def Kw(S0:St)(n p t:Nat)(H:aJ)(l:1<=n)(i:n<=8)(m:2<=p)(f:p<=900)(y:t<65536):cE 40 [aD n n H,.int .i64 p,.int .u16 t] S0 (fun r S'=>LineR S0 S' n p H r):=by
 refine jr func40 ntmps40 results40 ?_;simp -dsimp only[go_sem,aa,aD];refine(Kt n p i om f).call ?_;by_cases b:p^n<=65536
 .simp -dsimp only[go_sem,aa,b];refine(Np S0 n p H l i m f b).mono ?_;rintro r S' ⟨j,c,g,V,w,z,e⟩;rcases e.list.2 with⟨rfl,rfl⟩|⟨d,o,rfl,g',k,q⟩
  .simp -dsimp only[go_sem,show((0:Int)==0)=true from rfl];exact⟨e.list.1,bM rfl⟩
  .by_cases h:j=0
   .subst h;simp -dsimp only[go_sem,aa,k,show((((0:Nat):Int))==0)=true from rfl];exact⟨e.list.1,bM rfl⟩
   .have s:(((j:Nat):Int)==0)=false:=by simp;omega
    have u:IntKind.i64.wrap (t:Int)=t:=i64_in om om;have a:t%j<j:=dq _ om;simp -dsimp only[go_sem,aa,k,s,u,(om:¬((j:Int)=0)),pa,a,q _ a]
    obtain⟨v,x,A⟩:=e.rows _ a;exact⟨e.list.1,bO ⟨_,_,rfl,v,x,e.good _ a⟩⟩
 .simp -dsimp only[go_sem,aa,b];exact⟨eQ.refl _,bM rfl⟩
structure VecI(S0 S:St)(c n:Nat)(a:Nat->Int):Prop where
 has:bJ S c 2 1 n (fun k=>.int .i64 (a k))
 new:S0 c=ab
 ext:eQ S0 S
 rng:∀k,k<n->-128<=a k/\a k<=127
def VecR(S0 S:St)(n:Nat)(r:AV):Prop:=∃c a,r=.sl 1 c 0 n/\VecI S0 S c n a
def VecM(S0 S:St)(bt c n i:Nat):Prop:=(∃a,VecI S0 S c n a)/\iA S bt i/\S0 bt=ab
def Qu(S0:St)(L n:Nat)(nums:Nat->Int)(D:n<=8)(hnums:∀i,i<L->-128<=nums i/\nums i<=127):cE 34 [.lst 1 L (fun i=>.int .i8 (nums i)),.int .i64 n] S0 (fun r S'=>VecR S0 S' n r):=by
 refine jr func34 ntmps34 results34 ?_;simp -dsimp only[go_sem,bH,bW,cC,cW];refine aG.intro fun d o=>?_
 repeat refine an ?_
 refine aG.intro fun c e=>?_;have n12_10:=(ag e).1;simp -dsimp only[go_sem,cj];refine aH (fun O S=>∃i:Nat,i<=n/\VecM S0 S d c n i/\O 5=.ptr 1 d 0/\O 6=.sl 1 c 0 n/\O 14=.int .i64 n/\O 15=.int .i64 i) (fun O S=>n-ca (O 15)) ?_ ?_
 .simp -dsimp only[go_sem];refine⟨0,om,⟨⟨fun _=>0,bJ.here fun i w=>rfl,(ag e).2,((eQ.refl S0).upd o _).upd (ag e).2 _,fun k f=>om⟩,?_,o⟩,rfl⟩
  exact iA.upd ⟨L,nums,0,_,ci,rfl,rfl,ae _,hnums⟩ (aj n12_10) _
 .rintro O S ⟨i,w,⟨⟨a,m⟩,x,p⟩,q,s,h,j⟩;by_cases l:i<n
  .simp -dsimp only[go_sem,aa,q,s,h,j,l];refine(vB S d i x om).mono ?_;rintro r S' ⟨z,y,rfl,t,f⟩;obtain⟨g,A,B⟩:=m.has;have u:S' c=some ⟨2,1,n,g⟩:=by rw[f c n12_10];exact A
   simp -dsimp only[go_sem,aa,q,s,h,j,l,u,aT (om:i<1000000),ca]
   refine⟨⟨i+1,om,⟨⟨fun k=>if k=i then z else a k,bJ.here fun k f=>?_,m.new,?_,fun k f=>?_⟩,t.upd (aj n12_10) _,p⟩,rfl⟩,om⟩
   .simp only[bR];split
    .rfl
    .exact B k f
   .refine eQ.upd (fun b X v=>?_) m.new _;have C:b≠d:=by rintro rfl;rw[p]at v;cases v
    rw[f b C];exact m.ext b X v
   .show -128<=(if k=i then z else a k)/\(if k=i then z else a k)<=127
    split
    .exact y
    .exact m.rng k f
  .obtain rfl:i=n:=om
   simp -dsimp only[go_sem,aa,q,s,h,j,l];exact⟨c,a,rfl,m⟩
def ww(d k L:Nat)(nums:Nat->Int)(Lb:Nat)(base:Nat->AV)(q t:Nat):AV:=.agg [.int .u8 d,.int .u8 k,.lst 1 L (fun i=>.int .i8 (nums i)),.lst 1 Lb base,.int .u8 q,.int .u16 t]
def MadeM(M:Nat)(S0 S:St)(r:AV):Prop:=eQ S0 S/\∃n H p,fN n H/\n<=M/\kX (det n H) p/\p<=17 /\
 (r=.tup [aD n n H,.int .i64 p,.nil,.bool false]∨∃d v,r=.tup [aD n n H,.int .i64 p,.sl 1 d 0 n,.bool true]/\bJ S d 2 1 n (fun k=>.int .i64 ((v k:Nat):Int))/\S0 d=ab/\lG n p H v)
def L5(S0:St)(M d k L:Nat)(nums:Nat->Int)(Lb:Nat)(base:Nat->AV)(q t:Nat)(g:1<=M)(h:M<=5)(x:d<256)(y:k<256)(z:q<256)(A:t<65536)(hnums:∀i,i<L->-128<=nums i/\nums i<=127) :
  cE 13 [ww d k L nums Lb base q t,.int .i64 M] S0 (fun r S'=>MadeM M S0 S' r):=by
 refine jr func13 ntmps13 results13 ?_;simp -dsimp only[go_sem,aa,ww,ee,bH,bW,cC,cW];refine aG.intro fun o s=>?_;simp -dsimp only[go_sem,bI,bB];have B:(S0.upd o ⟨27,1,6,fun j=>[AV.int .u8 d,.int .u8 k,.lst 1 L (fun i=>.int .i8 (nums i)),.lst 1 Lb base,.int .u8 q,.int .u16 t].getD j .any⟩) o=some ⟨27,1,6,fun j=>[AV.int .u8 d,.int .u8 k,.lst 1 L (fun i=>.int .i8 (nums i)),.lst 1 Lb base,.int .u8 q,.int .u16 t].getD j .any⟩:=ci;refine(KE _ M d k L nums Lb base g h x y hnums).mono ?_;rintro r S1 ⟨n,H,b,e,rfl,a⟩;have f:=a _ _ B;simp -dsimp only[go_sem,aa,ee,bI,bB,f];refine(z6 S1 n H q b z).mono ?_;rintro r S1' ⟨p,l,u,rfl,rfl⟩;simp -dsimp only[go_sem,aa,bI,bB,f];refine(Kw S1' n p t H b.one (by have:=b.eight;omega) (by have:=l.1;omega) om A).mono ?_
 rintro r S2 ⟨m,C⟩;have w:eQ S0 S2:=(((eQ.refl S0).upd s _).trans a).trans m;rcases C with rfl|⟨c,v,rfl,D,E,F⟩
 .simp -dsimp only[go_sem,bI,bB];exact⟨w,n,H,p,b,e,l,u,bM rfl⟩
 .simp -dsimp only[go_sem,bI,bB];exact⟨w,n,H,p,b,e,l,u,bO ⟨c,v,rfl,D,(((eQ.refl S0).upd s _).trans a).none E,F⟩⟩
def MadeR(S0 S:St)(r:AV):Prop:=eQ S0 S/\∃n H p,fN n H/\kX (det n H) p/\p<=17 /\
 (r=.tup [aD n n H,.int .i64 p,.nil,.bool false]∨∃d v,r=.tup [aD n n H,.int .i64 p,.sl 1 d 0 n,.bool true]/\bJ S d 2 1 n (fun k=>.int .i64 ((v k:Nat):Int))/\S0 d=ab/\lG n p H v)
def JF(S0:St)(d k L:Nat)(nums:Nat->Int)(Lb:Nat)(base:Nat->AV)(q t:Nat)(a:d<256)(b:k<256)(c:q<256)(e:t<65536)(hnums:∀i,i<L->-128<=nums i/\nums i<=127) :
  cE 13 [ww d k L nums Lb base q t,.int .i64 5] S0 (fun r S'=>MadeR S0 S' r) :=
 (L5 S0 5 d k L nums Lb base q t om om a b c e hnums).mono fun _ _ ⟨f,n,H,p,g,_,h,j,l⟩=>⟨f,n,H,p,g,h,j,l⟩

end Go.Proofs.YtdobfmlmenaajaaGreatDoor
