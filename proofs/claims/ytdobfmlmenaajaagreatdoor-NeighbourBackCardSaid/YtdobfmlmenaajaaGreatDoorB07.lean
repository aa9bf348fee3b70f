/-
  Lemmas for NeighbourBack.
-/
import Derived.Test.YtdobfmlmenaajaaGreatDoorB06
namespace Go.Proofs.YtdobfmlmenaajaaGreatDoor
open Go.RowKit Tryz
open _root_.Int renaming tmod→et
open _root_.Option renaming none→ae
set_option maxHeartbeats 6400000
set_option maxRecDepth 4096
set_option linter.all false
attribute [local go_sem] Nat.reduceAdd Nat.reduceEqDiff Nat.reduceLeDiff Nat.reduceLT reduceCtorEq Int.ofNat_lt decide_true decide_false Int.zero_le_ofNat
attribute [local go_sem ↓] reduceIte
variable{x:AV}{K:AV->St->Prop}{D:Int}{c j k n p:Nat}{g v w:Nat->Nat}{V:Nat->Nat->Nat}{S:St}{H:az}
structure eQ(n:Nat)(H:az):Prop where
 one:1<=n
 eight:n<=8
 red:Ed H n
 small:det n H<=10000
def eQ.redB(h:eQ n H):(∀i j,i<n->j<n->H i j=H j i)/\vu H n:=⟨h.red.pd.sym,⟨h.red.pd.pos,h.small,h.red.rows⟩⟩
def K5(S:St)(M d k L:Nat)(nums:Nat->Int)(Lb:Nat)(base:Nat->AV)(c:1<=M)(e:M<=5)(q:d<256)(s:k<256)(hnums:∀i,i<L->-128<=nums i/\nums i<=127) :
  cI 38 [Oq d k L nums Lb base,ι M] S (fun r S'=>∃n H,eQ n H/\n<=M/\r=av n n H/\dh S S'):=by
 refine jg func38 ntmps38 results38 ?_;simp -dsimp only[go_sem,aa,Oq,ed,aU,bF,ca,cA];refine ax.intro fun u t=>?_;simp -dsimp only[go_sem,bL,bJ];refine(Nn M d k L nums Lb base c e q s hnums _ _ (cD _ _)).mono ?_;rintro r S1 ⟨b,g,n,A,⟨a,f⟩,rfl,o⟩;obtain⟨R,p,h⟩:=FV n A ⟨⟨a.sym,a.pos⟩,a.one,a.five,fun i j l m=>by have:=a.ent i j l m;omega,a.small⟩
 simp -dsimp only[go_sem,aa];refine(yh n n A a.one (by have:=a.five;omega) a.one (by have:=a.five;omega) (fun i j l m=>P7 (a.ent i j l m))).spec (eM.cons o.1.vr.va eM.nil) ?_
 simp -dsimp only[go_sem,aa];refine h.call ?_;simp only[go_sem];exact⟨n,gT A n R,⟨a.one,by have:=a.five;omega,p.red,by rw[p.inv.dn];exact a.small⟩,f,rfl,((dh.refl S).upd t _).trans o.2.1⟩
def nk(n:Nat)(f g:Nat->Int)(m:Int)(h:∀i,i<n->f i%m=g i%m):ap n f%m=ap n g%m:=by
 induction n with
 | zero=>rfl
 | succ n ih =>
  simp only[ap];rw[QK,ih (fun i a=>h i om),h n om,<-QK]
def eE(n:Nat)(H:az)(v:Nat->Int)(i:Nat):Int:=ap i fun i=>(ap n fun j=>H i j*v j)*v i
def Ce(n m:Nat)(H:az)(v:Nat->Int)(e:n<=8)(f:1<=m)(b:m<=2147483647):PF 76 [av n n H,aK n v,ι m] (ι (eE n H v n%m)):=by
 refine iy func76 ntmps76 results76 ?_;have g:¬((m:Int)=0):=om
 simp -dsimp only[go_sem,aa];refine(Ag n m H v e f b).call ?_;simp only[go_sem,aK];refine aC (fun O S=>∃i:Nat,i<=n/\O 1=aK n v/\O 2=ι m/\O 7=ι (eE n H v i%m)/\O 13=aK n (fun i=>(ap n fun j=>H i j*v j)%m)/\O 14=ι n/\O 15=ι i) (fun O S=>n-bO (O 15)) ?_ ?_
 .simp only[go_sem,aK];exact⟨0,om,by simp[eE,ap],rfl⟩
 .rintro O S ⟨i,x,y,z,A,h,k,l⟩;by_cases o:i<n
  .have a:(0:Int)<m:=om
   obtain⟨s,c⟩:∃s,s=ap n fun j=>H i j*v j:=⟨_,rfl⟩;have p:=aW s (show(m:Int)≠0 by omega)
   have B:=aS s a;have d:=aW (v i) (show(m:Int)≠0 by omega)
   have C:=aS (v i) a;have q:=cC p d;have D:s%m*(v i%m)<=2147483647*2147483647:=ck om om d om;have r:ω (s%m*(v i%m))=s%m*(v i%m):=i64_in om om;have t:et (s%m*(v i%m)) m=(s%m*(v i%m))%m:=aJ q;have s1:=aW (eE n H v i) (show(m:Int)≠0 by omega)
   have E:=aS (eE n H v i) a;have F:=aW (s%m*(v i%m)) (show(m:Int)≠0 by omega)
   have G:=aS (s%m*(v i%m)) a;have u:ω (eE n H v i%m+(s%m*(v i%m))%m)=eE n H v i%m+(s%m*(v i%m))%m:=i64_in om om;have w:et (eE n H v i%m+(s%m*(v i%m))%m) m=eE n H v (i+1)%m:=by
    rw[aJ om,AH];simp only[eE,ap,c]
   simp -dsimp only[*,go_sem,aa,aK];refine(Ef a om).call ?_;rw[c]at r t u w;simp only[*,go_sem,aK,aF (om:i<1000000),bO]
   exact⟨⟨i+1,om,rfl,rfl⟩,om⟩
  .obtain rfl:i=n:=om
   simp only[*,go_sem,aa,aK];exact VR.mf rfl
def il(v:Nat->Int):Nat->Int
 | 0=>0
 | j+1=>if il v j=0 then v j else il v j
def CI(n p:Nat)(H:az)(v:Nat->Int):Prop:=(∀i,i<n->0<=v i/\v i<p)/\il v n=1/\eE n H v n%p=0
def zL(n m:Nat)(H:az)(v:Nat->Int)(β:Bool)(o:n<=8)(p:1<=m)(f:m<=2147483647)(hβ:β=true↔CI n m H v):PF 75 [av n n H,ι m,aK n v] (.bool β):=by
 refine iy func75 ntmps75 results75 ?_;simp only[go_sem,aK,av,show((n:Int) != n)=false by simp]
 refine aC (fun O S=>∃i:Nat,i<=n/\(∀k,k<i->0<=v k/\v k<m)/\O 0=av n n H/\O 1=ι m/\O 2=aK n v/\O 7=ι (il v i)/\O 15=aK n v/\O 16=ι n/\O 17=ι i) (fun O S=>n-bO (O 17)) ?_ ?_
 .simp only[go_sem,aK,av];exact⟨0,om,fun k q=>om,rfl,rfl⟩
 .rintro O S ⟨i,u,c,w,x,y,z,r,s,t⟩;by_cases d:i<n
  .by_cases A:v i<0
   .simp only[*,go_sem,aa,aK,av];rw[dC hβ fun h=>by have:=h.1 i d;omega]
    exact VR.mf rfl
   by_cases B:(m:Int)<=v i
   .simp only[*,go_sem,aa,aK,av];rw[dC hβ fun h=>by have:=h.1 i d;omega]
    exact VR.mf rfl
   have a:∀k,k<i+1->0<=v k/\v k<m:=fun k q=>by
    by_cases e:k=i
    .rw[e];omega
    .exact c k om
   by_cases b:il v i=0
   .have g:il v (i+1)=v i:=by simp[il,b]
    simp only[*,go_sem,aa,aK,av,show((0:Int)==0)=true from rfl,aF (om:i<1000000),bO]
    exact⟨⟨i+1,om,a,by rw[g],rfl⟩,om⟩
   .have g:il v (i+1)=il v i:=by simp[il,b]
    have j:(il v i==0)=false:=by simp[b]
    simp only[*,go_sem,aa,aK,av,aF (om:i<1000000),bO]
    exact⟨⟨i+1,om,a,by rw[g],rfl⟩,om⟩
  .obtain rfl:i=n:=om
   by_cases b:il v i=1
   .simp -dsimp only[*,go_sem,aa,aK,av,show((1:Int)==1)=true from rfl];refine(Ce i m H v o p f).call ?_;by_cases l:eE i H v i%(m:Int)=0
    .simp only[*,go_sem,aK,av,show((1:Int)==1)=true from rfl,show((0:Int)==0)=true from rfl];rw[hβ.2 ⟨c,b,l⟩];exact VR.mf rfl
    .simp only[*,go_sem,aK,av,show(eE i H v i%(m:Int)==0)=false by simpa using l,show((1:Int)==1)=true from rfl]
     rw[dC hβ fun h=>l h.2.2];exact VR.mf rfl
   .have j:(il v i==1)=false:=by simp[b]
    simp only[*,go_sem,aK,av];rw[dC hβ fun h=>b h.2.1];exact VR.mf rfl
def sM(n m:Nat)(H:az)(v:Nat->Int)(b:n<=8)(c:1<=m)(a:m<=2147483647)(d:∀i,i<n->0<=v i/\v i<m):PF 75 [av n n H,ι m,aK n v] (.bool (il v n==1&&eE n H v n%m==0)) :=
 zL n m H v _ b c a (by rw[cV,vV,vV];exact⟨fun h=>⟨d,h⟩,fun h=>h.2⟩)

def ny(e:2<=p)(f:p<25)(a:¬p%2=0∨p<4)(b:¬p%3=0∨p<9)(c:¬p%4=0∨p<16):tH p:=by
 refine⟨e,fun d g i=>?_⟩;have:d<5:=by
  rcases aB d 5 with h|h
  .exact h
  .have:5*5<=d*d:=aX h h;omega
 have:d=2∨d=3∨d=4:=om
 rcases this with rfl|rfl|rfl<;>omega
def jw(D:Int)(p:Nat):Prop:=3<=p/\p%2=1/\tH p/\¬D%p=0
def jw.pr(h:jw D p)(a:p<=9973):nI p:=⟨h.2.2.1,h.1,a⟩
open Classical in
noncomputable def gc(D:Int):Nat->Nat
 | 0=>0
 | p+1=>gc D p+if jw D p then 1 else 0
open Classical in
def Ck(D:Int)(q:Nat)(f:Nat)(h:tH q/\3<=q/\q%2=1){k:Nat}(c:k<=gc D q)(a:f=if D%q=0 then 0 else 1):k+f<=gc D (q+1):=by
 simp only[gc,jw,a];by_cases b:D%(q:Int)=0<;>simp[b,h.1,h.2.1,h.2.2]<;>omega
def uD(D:Int){p q:Nat}(h:p<=q){k:Nat}(a:k<=gc D p):k<=gc D q:=by
 induction q with
 | zero=>rw[show(0:Nat)=p by omega];exact a
 | succ q ih =>
  by_cases e:p=q+1
  .rw[<-e];exact a
  .exact bQ (ih om) (by simp only[gc];omega)
def Sx(p:0<D)(q:D<=10000)(a b c d e:Nat)(f:Nat.Coprime a b)(g:Nat.Coprime (a*b) c)(i:Nat.Coprime (a*b*c) d)(j:Nat.Coprime (a*b*c*d) e)(r:10000<a*b*c*d*e) :
  ¬(D%(a:Int)=0/\D%(b:Int)=0/\D%(c:Int)=0/\D%(d:Int)=0/\D%(e:Int)=0):=by
 rintro⟨k,l,m,n,o⟩;have t:∀{x:Nat},D%(x:Int)=0->x∣D.natAbs:=fun h=>Int.ofNat_dvd_left.1 (dF h);have s:=BG om (j.mul_dvd_of_dvd_of_dvd (i.mul_dvd_of_dvd_of_dvd (g.mul_dvd_of_dvd_of_dvd (f.mul_dvd_of_dvd_of_dvd (t k) (t l)) (t m)) (t n)) (t o));omega
open Classical in
def N0{a b c d e f:Prop}(m:¬(a/\b/\c/\d/\e))(n:¬(a/\b/\c/\d/\f))(o:¬(a/\b/\c/\e/\f))(p:¬(a/\b/\d/\e/\f))(q:¬(a/\c/\d/\e/\f))(r:¬(b/\c/\d/\e/\f)){g h i j k l:Nat}
  (s:a∨1<=g) (t:b∨1<=h) (u:c∨1<=i) (v:d∨1<=j) (w:e∨1<=k) (x:f∨1<=l):2<=0+g+h+i+j+k+l:=by
 by_cases a<;>by_cases b<;>by_cases c<;>by_cases d<;>by_cases e<;>by_cases f<;>simp_all<;>omega
def Rn(a:0<D)(b:D<=10000):2<=gc D 18:=by
 have j:tH 3:=ny om om om om om;have k:tH 5:=ny om om om om om;have l:tH 7:=ny om om om om om;have c:tH 11:=ny om om om om om;have d:tH 13:=ny om om om om om;have e:tH 17:=ny om om om om om;have m:=Ck D 3 _ ⟨j,om,om⟩ (lq _) rfl
 have n:=Ck D 5 _ ⟨k,om,om⟩ (uD D (om:3+1<=5) m) rfl
 have o:=Ck D 7 _ ⟨l,om,om⟩ (uD D (om:5+1<=7) n) rfl
 have f:=Ck D 11 _ ⟨c,om,om⟩ (uD D (om:7+1<=11) o) rfl
 have g:=Ck D 13 _ ⟨d,om,om⟩ (uD D (om:11+1<=13) f) rfl
 have i:=Ck D 17 _ ⟨e,om,om⟩ (uD D (om:13+1<=17) g) rfl
 refine bQ ?_ i;have t:∀q:Nat,D%(q:Int)=0∨1<=(if D%(q:Int)=0 then 0 else 1:Nat):=fun q=>by
  by_cases h:D%(q:Int)=0
  .exact a6 h
  .right;simp[h]
 exact N0 (Sx a b 3 5 7 11 13 dc dc dc dc dc) (Sx a b 3 5 7 11 17 dc dc dc dc dc)
  (Sx a b 3 5 7 13 17 dc dc dc dc dc) (Sx a b 3 5 11 13 17 dc dc dc dc dc)
  (Sx a b 3 7 11 13 17 dc dc dc dc dc) (Sx a b 5 7 11 13 17 dc dc dc dc dc)
  (t 3) (t 5) (t 7) (t 11) (t 13) (t 17)
def Jh(a:p%2=1):gc D (p+2)=gc D (p+1):=by
 have:¬jw D (p+1):=fun h=>by have:=h.2.1;omega
 simp[gc,this]
def eQ.ent(h:eQ n H):Im n H:=fun i j a b=>by
 have:=h.red.entry h.eight a b;omega
def eQ.det(h:eQ n H):0<det n H/\det n H<=10000:=⟨h.red.pd.2 n (ag _),h.small⟩
def gpI(D:Int)(p s:Nat):Prop:=3<=p/\p<=17/\p%2=1/\gc D p+s<=1
def A9(S:St)(n:Nat)(H:az)(k:Nat)(b:eQ n H)(m:k<256):cI 39 [av n n H,.int .u8 k] S (fun r S'=>∃p:Nat,jw (det n H) p/\p<=17/\r=ι p/\S'=S):=by
 refine jg func39 ntmps39 results39 ?_;have i:=b.eight;have o:et (k:Int) 2=((k%2:Nat):Int):=by rw[nL]<;>rfl
 have q:ω ((k%2:Nat):Int)=((k%2:Nat):Int):=i64_in om om;simp only[*,go_sem,show ¬((2:Int)=0) by decide]
 have t:=Rn b.det.1 b.det.2;refine aC (fun O S'=>∃p s:Nat,gpI (det n H) p s/\O 0=av n n H/\O 5=ι s/\O 6=ι p/\S'=S) (fun O S=>18-bO (O 6)) ?_ ?_
 .simp only[go_sem];refine⟨3,k%2,⟨om,om,om,?_⟩,rfl,rfl⟩
  have:gc (det n H) 3=0:=by simp[gc,jw]
  omega
 .rintro O S' ⟨p,s,⟨g,e,c,j⟩,u,v,w,rfl⟩;have wp:ω ((p:Int)+2)=((p+2:Nat):Int):=dN om om;rcases iM (jw (det n H) p)with d|d
  .simp -dsimp only[*,go_sem,aa];refine(Ej n p H b.one om b.ent b.det true (by simp only[true_iff];exact⟨rQ.of (d.pr om),d.2.2.2⟩)).call ?_
   have a:gc (det n H) (p+1)=gc (det n H) p+1:=by simp[gc,d]
   by_cases l:s=0
   .subst l;simp only[*,go_sem,show((((0:Nat)):Int)==0)=true from rfl];exact⟨p,d,e,rfl⟩
   .obtain rfl:s=1:=om
    have f:p+2<=17:=by
     rcases aB p 16 with h|h
     .omega
     .obtain rfl:p=17:=om
      rw[show(17:Nat)+1=18 from rfl]at a;omega
    simp only[*,go_sem,show((((1:Nat)):Int)==0)=false from rfl,show ω ((((1:Nat)):Int)-1)=((0:Nat):Int)from dN om om,bO];exact⟨⟨p+2,0,⟨om,om,om,by rw[Jh c,a];omega⟩,rfl,rfl⟩,om⟩
  .simp -dsimp only[*,go_sem,aa];refine(Ej n p H b.one om b.ent b.det false (by simp only[dB,Th];exact fun h=>d ⟨g,c,h.1.2.2,h.2⟩)).call ?_
   have a:gc (det n H) (p+1)=gc (det n H) p:=by simp[gc,d]
   have f:p+2<=17:=by
    rcases aB p 16 with h|h
    .omega
    .obtain rfl:p=17:=om
     rw[show(17:Nat)+1=18 from rfl]at a;omega
   simp only[*,go_sem,bO];exact⟨⟨p+2,s,⟨om,om,om,by rw[Jh c,a];omega⟩,rfl,rfl⟩,om⟩

def oW(p:Nat)(v:Nat->Nat):Nat->Nat
 | 0=>0
 | k+1=>oW p v k*p+v k
def CU(h:∀i,i<k->v i<p):oW p v k<p^k:=by
 induction k with
 | zero=>simp[oW]
 | succ k ih =>
  have a:=ih (fun i c=>h i om);have d:=h k om;simp only[oW];have b:(oW p v k+1)*p<=p^k*p:=aX a (ag _);rw[dK,mP]at b;rw[bZ];omega
def zo(h:∀i,i<k->v i=w i):oW p v k=oW p w k:=by
 induction k with
 | zero=>rfl
 | succ k ih=>simp only[oW];rw[ih (fun i a=>h i om),h k om]
theorem wb{p:Nat}{v w:Nat->Nat}{i:Nat}(a:∀k,k<i->w k=v k)(b:w i=v i+1):∀n,(∀k,i<k->k<i+1+n->w k=0/\v k<p)->oW p v (i+1+n)<oW p w (i+1+n)
 | 0,_=>by
  simp only[oW];rw[zo (p:=p) a,b];omega
 | n+1,h=>by
  have ih:=wb a b n (fun k c d=>h k c om);have e:=h (i+1+n) om om;rw[<-kS];simp only[oW,e.1,cB];have f:(oW p v (i+1+n)+1)*p<=oW p w (i+1+n)*p:=aX ih (ag _);rw[dK,mP]at f;omega
structure jn(n p:Nat)(H:az)(v:Nat->Nat):Prop where
 lt:∀i,i<n->v i<p
 lead:il (fun i=>v i) n=1
 norm:eE n H (fun i=>v i) n%p=0
structure Gd(S0 S:St)(n p:Nat)(H:az)(j:Nat)(x:AV)(c:Nat)(g:Nat->Nat)(V:Nat->Nat->Nat)(w:Nat->Nat):Prop where
 list:cN 29 1 S0 S x j (fun i=>ϑ (g i) 0 n)
 rows:∀i,i<j->aY S (g i) 2 1 n (fun k=>ι (V i k))/\S0 (g i)=ae/\g i≠c
 good:∀i,i<j->jn n p H (V i)
 now:aY S c 2 1 n (fun k=>ι (w k))
 new:S0 c=ae
def Gd.set{S0:St}(h:Gd S0 S n p H j x c g V w){g':Nat->AV}(l:S c=some ⟨2,1,n,g'⟩){i z:Nat} :
  Gd S0 (S.upd c ⟨2,1,n,aL g' i (ι z)⟩) n p H j x c g V (fun k=>if k=i then z else w k):=by
 refine⟨h.list.upd h.new (fun d o e=>h.list.other l om (e▸o)) _,fun a q=>?_,h.good,?_,h.new⟩
 .obtain⟨b,f,m⟩:=h.rows a q;exact⟨b.upd m _,f,m⟩
 .refine aY.here fun k r=>?_;obtain⟨s,b,f⟩:=h.now;rw[l]at b;cases b;simp only[aL];split
  .rfl
  .exact f k r
def digI(n p k:Nat)(v w:Nat->Nat):Prop:=k<=n/\(∀i,i<n->v i<p)/\(∀i,i<k->w i=v i)/\∀i,k<=i->i<n->w i=0
def allH(n p j:Nat)(v:Nat->Nat):Prop:=(∀i,i<n->v i<p)/\j<=oW p v n
noncomputable def Re(n p:Nat)(S:St)(x:AV):Nat:=match x with
 | .sl _ c _ _=>(match S c with
  | some X=>p^n-oW p (fun i=>bO (X.g i)) n
  | ae=>0)
 | _=>0
def yM(h:aY S c 2 1 n (fun k=>ι (w k))):Re n p S (ϑ c 0 n)=p^n-oW p w n:=by
 obtain⟨g,a,b⟩:=h;simp only[Re,a];rw[zo (w:=w) fun i d=>by rw[b i d];simp[bO]]
def AllR(S0 S:St)(n p:Nat)(H:az)(r:AV):Prop:=∃j c g V w,j<=65536/\Gd S0 S n p H j r c g V w
def Kl(x:AV):Nat:=match x with
 | .int _ z=>(z+1).toNat
 | _=>0
def KF(h:aY S c 2 1 n (fun k=>ι (w k)))(d:0<n)(p:n<=1000)
  (e:∀b h',S b=ae->(∀k,k<n->h' k=ι (w k))->K (ϑ b 0 n) (S.upd b ⟨2,1,n,h'⟩)):gE 29 29 .nil (ϑ c 0 n) S K:=by
 obtain⟨g,f,a⟩:=h;have i:DF S (ϑ c 0 n)=some (1,n,fun j=>g (0+j),some c):=by simp[DF,f]
 unfold gE;rw[show dQ 29=some 2 from rfl,i];refine⟨rfl,rfl,rfl,d,fun j l=>?_,om,fun b m=>e b _ m fun k o=>?_⟩
 .show dY 1 (g (0+j));rw[aM,a j l];simp[dY]
 .show g (0+k)=_;rw[aM,a k o]
def Nw(S0:St)(n p:Nat)(H:az)(h1:1<=n)(h2:n<=8)(hp:2<=p)(hp2:p<=900)(hpn:p^n<=65536) :
  cI 92 [av n n H,ι p] S0 (fun r S'=>AllR S0 S' n p H r):=by
 refine jg func92 ntmps92 results92 ?_;simp -dsimp only[go_sem,av]
 repeat refine an ?_
 refine ax.intro fun W P=>?_;simp only[go_sem];refine aC (fun O S=>∃j x c g V w,Gd S0 S n p H j x c g V w/\allH n p j w/\O 0=av n n H/\O 1=ι p/\O 5=x/\O 6=ϑ c 0 n) (fun O S=>Re n p S (O 6)) ?_ ?_
 .simp only[go_sem,av];refine⟨0,_,W,fun _=>0,fun _ _=>0,fun _=>0,⟨cN.nil ((dh.refl S0).upd P _) _,fun i m=>om,fun i m=>om,aY.here fun i m=>rfl,P⟩,⟨fun i m=>by show 0<p;omega,om⟩,rfl,rfl⟩
 .rintro O S ⟨j,x,c,g,V,w,s,⟨t,hj⟩,K,L,M,N⟩;have hvl:=CU (p:=p) t;simp -dsimp only[*,go_sem,aa,av];have hI:oq S c n (fun k=>w k):=s.now;refine(sM n p H (fun k=>w k) h2 om om (fun i m=>by have:=t i m;omega)).spec (eM.same (eM.same (eM.i64s hI eM.nil))) ?_
  rcases iM (jn n p H w)with Q|Q
  .have o:(il (fun k=>(w k:Int)) n==1&&eE n H (fun k=>(w k:Int)) n%(p:Int)==0)=true:=by simp only[Q.lead,Q.norm];rfl
   simp -dsimp only[*,go_sem,av];refine KF s.now om om ?_;intro d h' R hh;simp -dsimp only[*,go_sem];refine ax.intro fun b18 u=>?_;have n18d:=(af u).1;have X:c≠d:=s.now.fresh R;simp -dsimp only[*,go_sem];have y:=(s.list.upd (s.list.1.none R) (s.list.fresh R) ⟨2,1,n,h'⟩);have E:=y.fresh u;refine cN.app29 (y.upd (y.1.none u) E _) om (show dY 1 (ϑ d 0 n) by simp[dY]) (aQ ⟨_,_,_,rfl,bW,rfl,fun h=>E _ h rfl⟩) ?_
   intro c' S' Y Z hk3;have F:Gd S0 S' n p H (j+1) (ϑ c' 0 (j+1)) c (fun i=>if i=j then d else g i) (fun i=>if i=j then w else V i) w:=by
    have G:=y.upd (y.1.none u) E ⟨29,1,1,fun j=>[ϑ d 0 n].getD j AV.any⟩;have keep1:∀{b:Nat} {gg:Nat->AV},aY (S.upd d ⟨2,1,n,h'⟩) b 2 1 n gg->aY S' b 2 1 n gg:=fun {b gg} o=>by
     obtain⟨gb,U,q2⟩:=o.upd (o.fresh u) ⟨29,1,1,fun j=>[ϑ d 0 n].getD j AV.any⟩;exact⟨gb,Z b _ U (G.other U om),q2⟩
    have keep:∀{b:Nat} {gg:Nat->AV},aY S b 2 1 n gg->aY S' b 2 1 n gg:=fun {b gg} o=>keep1 (o.upd (o.fresh R) _);refine⟨Y.congr fun i m=>?_,fun i m=>?_,fun i m=>?_,keep s.now,s.new⟩
    .show(if i=j then ϑ d 0 n else ϑ (g i) 0 n)=ϑ (if i=j then d else g i) 0 n
     split<;>rfl
    .by_cases e:i=j
     .simp only[e,aH];exact⟨keep1 (aY.here hh),s.list.1.none R,ai X⟩
     .simp only[e,aI];obtain⟨U,q2,q3⟩:=s.rows i om;exact⟨keep U,q2,q3⟩
    .by_cases e:i=j
     .simp only[e,aH];exact Q
     .simp only[e,aI];exact s.good i om
   generalize (fun i=>if i=j then d else g i)=g2 at F
   generalize (fun i=>if i=j then w else V i)=V2 at F
   have wn:ω ((n:Int)-1)=(n:Int)-1:=i64_in om om;simp only[*,go_sem];refine aC (fun O S=>∃k w',Gd S0 S n p H (j+1) (ϑ c' 0 (j+1)) c g2 V2 w'/\digI n p k w w'/\O 0=av n n H/\O 1=ι p/\O 5=(ϑ c' 0 (j+1))/\O 6=ϑ c 0 n/\O 7=ι ((k:Int)-1)) (fun O S=>Kl (O 7)) ?_ ?_
   .simp only[*,go_sem,av];exact⟨n,w,F,⟨ag _,t,fun _ _=>rfl,fun i a b=>om⟩,rfl⟩
   .rintro O S2 ⟨k,w',f,⟨hk,hv,l,q⟩,K,L,M,N,I⟩;rcases bD k with rfl|hk0
    .simp only[*,go_sem,aa,av,show((((0:Nat):Int)-1)<0) by decide,show ¬((0:Int)<=(((0:Nat):Int)-1)) by decide]
     exact⟨(j+1),c,_,_,_,om,f⟩
    .obtain⟨i,rfl⟩:∃i,k=i+1:=⟨k-1,om⟩
     rw[show(((i+1:Nat):Int)-1)=(i:Int) by omega]at I
     have m:i<n:=om
     obtain⟨g',C,u2⟩:=f.now;have T:g' i=ι (w i):=by rw[u2 i m];show ι (w' i:Nat)=_;rw[l i om]
     have wp:ω ((p:Int)-1)=((p-1:Nat):Int):=dN om om;have hwi:=t i m;by_cases he:w i=p-1
     .have o:(((w i:Nat):Int)==((p-1:Nat):Int))=true:=by simp[he]
      have wi:ω ((i:Int)-1)=(i:Int)-1:=i64_in om om;simp only[go_sem,aa,K,L,M,N,av,I,m,C,T,wp,o,wi,Kl];refine⟨⟨i,_,f.set C (i:=i) (z:=0),⟨om,hv,fun a D=>?_,fun a D J=>?_⟩,rfl⟩,om⟩
      .show(if a=i then 0 else w' a)=w a
       rw[ah om,l a om]
      .show(if a=i then 0 else w' a)=0
       split
       .rfl
       .exact q a om J
     .have o:(((w i:Nat):Int)==((p-1:Nat):Int))=false:=by simp;omega
      have wi:ω ((w i:Int)+1)=((w i+1:Nat):Int):=dN om om;have A:=f.set C (i:=i) (z:=w i+1);have hlt:oW p w n<oW p (fun k=>if k=i then w i+1 else w' k) n:=by
       have:=wb (p:=p) (v:=w) (w:=fun k=>if k=i then w i+1 else w' k) (i:=i) (fun k hk=>by show(if k=i then w i+1 else w' k)=w k;rw[ah om,l k om]) sm (n-(i+1)) (fun k h3 h4=>⟨by show(if k=i then w i+1 else w' k)=0;rw[ah om,q k om om],t k om⟩)
       rwa [(om:i+1+(n-(i+1))=n)]at this
      have B:∀a,a<n->(fun k=>if k=i then w i+1 else w' k) a<p:=fun a D=>by
       show(if a=i then w i+1 else w' a)<p
       split
       .omega
       .rcases aB a (i+1)with h|h
        .rw[l a h];exact t a D
        .rw[q a h D];omega
      have G:=CU (p:=p) B;have m1:=yM (p:=p) s.now;have m2:=yM (p:=p) A.now;simp only[go_sem,aa,K,L,M,N,av,I,m,C,T,wp,o,wi,(om:¬((i:Int)<0))]
      refine⟨⟨(j+1),_,c,_,_,_,A,⟨B,om⟩,sm⟩,?_⟩
      rw[m1,m2];omega
  .have o:(il (fun k=>(w k:Int)) n==1&&eE n H (fun k=>(w k:Int)) n%(p:Int)==0)=false:=by
    simp only[Bool.and_eq_false_iff,fW];exact cK fun h=>Q ⟨t,cK fun h5=>h (a6 h5),cK fun h5=>h (aQ h5)⟩
   simp only[*,go_sem,av];have wn:ω ((n:Int)-1)=(n:Int)-1:=i64_in om om;simp only[go_sem,wn];refine aC (fun O S=>∃k w',Gd S0 S n p H j x c g V w'/\digI n p k w w'/\O 0=av n n H/\O 1=ι p/\O 5=x/\O 6=ϑ c 0 n/\O 7=ι ((k:Int)-1)) (fun O S=>Kl (O 7)) ?_ ?_
   .simp only[*,go_sem,av];exact⟨n,w,s,⟨ag _,t,fun _ _=>rfl,fun i a b=>om⟩,rfl⟩
   .rintro O S2 ⟨k,w',f,⟨hk,hv,l,q⟩,K,L,M,N,I⟩;rcases bD k with rfl|hk0
    .simp only[*,go_sem,aa,av,show((((0:Nat):Int)-1)<0) by decide,show ¬((0:Int)<=(((0:Nat):Int)-1)) by decide]
     exact⟨j,c,_,_,_,om,f⟩
    .obtain⟨i,rfl⟩:∃i,k=i+1:=⟨k-1,om⟩
     rw[show(((i+1:Nat):Int)-1)=(i:Int) by omega]at I
     have m:i<n:=om
     obtain⟨g',C,u2⟩:=f.now;have T:g' i=ι (w i):=by rw[u2 i m];show ι (w' i:Nat)=_;rw[l i om]
     have wp:ω ((p:Int)-1)=((p-1:Nat):Int):=dN om om;have hwi:=t i m;by_cases he:w i=p-1
     .have o:(((w i:Nat):Int)==((p-1:Nat):Int))=true:=by simp[he]
      have wi:ω ((i:Int)-1)=(i:Int)-1:=i64_in om om;simp only[go_sem,aa,K,L,M,N,av,I,m,C,T,wp,o,wi,Kl];refine⟨⟨i,_,f.set C (i:=i) (z:=0),⟨om,hv,fun a D=>?_,fun a D J=>?_⟩,rfl⟩,om⟩
      .show(if a=i then 0 else w' a)=w a
       rw[ah om,l a om]
      .show(if a=i then 0 else w' a)=0
       split
       .rfl
       .exact q a om J
     .have o:(((w i:Nat):Int)==((p-1:Nat):Int))=false:=by simp;omega
      have wi:ω ((w i:Int)+1)=((w i+1:Nat):Int):=dN om om;have A:=f.set C (i:=i) (z:=w i+1);have hlt:oW p w n<oW p (fun k=>if k=i then w i+1 else w' k) n:=by
       have:=wb (p:=p) (v:=w) (w:=fun k=>if k=i then w i+1 else w' k) (i:=i) (fun k hk=>by show(if k=i then w i+1 else w' k)=w k;rw[ah om,l k om]) sm (n-(i+1)) (fun k h3 h4=>⟨by show(if k=i then w i+1 else w' k)=0;rw[ah om,q k om om],t k om⟩)
       rwa [(om:i+1+(n-(i+1))=n)]at this
      have B:∀a,a<n->(fun k=>if k=i then w i+1 else w' k) a<p:=fun a D=>by
       show(if a=i then w i+1 else w' a)<p
       split
       .omega
       .rcases aB a (i+1)with h|h
        .rw[l a h];exact t a D
        .rw[q a h D];omega
      have G:=CU (p:=p) B;have m1:=yM (p:=p) s.now;have m2:=yM (p:=p) A.now;simp only[go_sem,aa,K,L,M,N,av,I,m,C,T,wp,o,wi,(om:¬((i:Int)<0))]
      refine⟨⟨j,_,c,_,_,_,A,⟨B,om⟩,sm⟩,?_⟩
      rw[m1,m2];omega

def LineR(S0 S:St)(n p:Nat)(H:az)(r:AV):Prop:=dh S0 S/\(r=.tup [.nil,.bool false]∨∃d v,r=.tup [ϑ d 0 n,.bool true]/\aY S d 2 1 n (fun k=>ι ((v k:Nat):Int))/\S0 d=ae/\jn n p H v)
def KU(S0:St)(n p t:Nat)(H:az)(k:1<=n)(i:n<=8)(l:2<=p)(f:p<=900)(v:t<65536):cI 40 [av n n H,ι p,.int .u16 t] S0 (fun r S'=>LineR S0 S' n p H r):=by
 refine jg func40 ntmps40 results40 ?_;simp -dsimp only[go_sem,aa,av];refine(KQ n p i om f).call ?_;by_cases a:p^n<=65536
 .simp -dsimp only[go_sem,aa,a];refine(Nw S0 n p H k i l f a).mono ?_;rintro r S' ⟨j,c,g,V,w,x,e⟩;rcases e.list.2 with⟨rfl,rfl⟩|⟨d,m,rfl,g',o,q⟩
  .simp only[go_sem,show((0:Int)==0)=true from rfl];exact⟨e.list.1,a6 rfl⟩
  .by_cases h:j=0
   .subst h;simp only[go_sem,aa,o,show((((0:Nat):Int))==0)=true from rfl];exact⟨e.list.1,a6 rfl⟩
   .have y:(((j:Nat):Int)==0)=false:=by simp;omega
    have z:ω (t:Int)=t:=i64_in om om;have b:t%j<j:=di _ om;simp only[*,go_sem,aa,(om:¬((j:Int)=0)),qm,q _ b]
    obtain⟨s,u,A⟩:=e.rows _ b;exact⟨e.list.1,aQ ⟨_,_,rfl,s,u,e.good _ b⟩⟩
 .simp only[go_sem,aa,a];exact⟨dh.refl _,a6 rfl⟩
structure VecI(S0 S:St)(c n:Nat)(a:Nat->Int):Prop where
 has:aY S c 2 1 n (fun k=>ι (a k))
 new:S0 c=ae
 ext:dh S0 S
 rng:∀k,k<n->-128<=a k/\a k<=127
def VecR(S0 S:St)(n:Nat)(r:AV):Prop:=∃c a,r=ϑ c 0 n/\VecI S0 S c n a
def VecM(S0 S:St)(bt c n i:Nat):Prop:=(∃a,VecI S0 S c n a)/\iV S bt i/\S0 bt=ae
def Qs(S0:St)(L n:Nat)(nums:Nat->Int)(D:n<=8)(hnums:∀i,i<L->-128<=nums i/\nums i<=127):cI 34 [.lst 1 L (fun i=>.int .i8 (nums i)),ι n] S0 (fun r S'=>VecR S0 S' n r):=by
 refine jg func34 ntmps34 results34 ?_;simp -dsimp only[go_sem,aU,bF,ca,cA];refine ax.intro fun d j=>?_
 repeat refine an ?_
 refine ax.intro fun c e=>?_;have n12_10:=(af e).1;simp only[go_sem,cR];refine aC (fun O S=>∃i:Nat,i<=n/\VecM S0 S d c n i/\O 5=ϰ d 0/\O 6=ϑ c 0 n/\O 14=ι n/\O 15=ι i) (fun O S=>n-bO (O 15)) ?_ ?_
 .simp only[go_sem];refine⟨0,om,⟨⟨fun _=>0,aY.here fun i u=>rfl,(af e).2,((dh.refl S0).upd j _).upd (af e).2 _,fun k f=>om⟩,?_,j⟩,rfl⟩
  exact iV.upd ⟨L,nums,0,_,bW,rfl,rfl,ag _,hnums⟩ (ai n12_10) _
 .rintro O S ⟨i,u,⟨⟨a,h⟩,v,l⟩,w,x,m,o⟩;by_cases p:i<n
  .simp -dsimp only[*,go_sem,aa];refine(xf S d i v om).mono ?_;rintro r S' ⟨z,y,rfl,q,f⟩;obtain⟨g,A,B⟩:=h.has;have s:S' c=some ⟨2,1,n,g⟩:=by rw[f c n12_10];exact A
   simp only[go_sem,aa,w,x,m,o,p,s,aF (om:i<1000000),bO]
   refine⟨⟨i+1,om,⟨⟨fun k=>if k=i then z else a k,aY.here fun k f=>?_,h.new,?_,fun k f=>?_⟩,q.upd (ai n12_10) _,l⟩,rfl⟩,om⟩
   .simp only[aL];split
    .rfl
    .exact B k f
   .refine dh.upd (fun b X t=>?_) h.new _;have C:b≠d:=by rintro rfl;rw[l]at t;cases t
    rw[f b C];exact h.ext b X t
   .show -128<=(if k=i then z else a k)/\(if k=i then z else a k)<=127
    split
    .exact y
    .exact h.rng k f
  .obtain rfl:i=n:=om
   simp only[*,go_sem,aa];exact⟨c,a,rfl,h⟩
def AB(d k L:Nat)(nums:Nat->Int)(Lb:Nat)(base:Nat->AV)(q t:Nat):AV:=.agg [.int .u8 d,.int .u8 k,.lst 1 L (fun i=>.int .i8 (nums i)),.lst 1 Lb base,.int .u8 q,.int .u16 t]
def MadeM(M:Nat)(S0 S:St)(r:AV):Prop:=dh S0 S/\∃n H p,eQ n H/\n<=M/\jw (det n H) p/\p<=17 /\
 (r=.tup [av n n H,ι p,.nil,.bool false]∨∃d v,r=.tup [av n n H,ι p,ϑ d 0 n,.bool true]/\aY S d 2 1 n (fun k=>ι ((v k:Nat):Int))/\S0 d=ae/\jn n p H v)
def L5(S0:St)(M d k L:Nat)(nums:Nat->Int)(Lb:Nat)(base:Nat->AV)(q t:Nat)(g:1<=M)(h:M<=5)(x:d<256)(y:k<256)(z:q<256)(A:t<65536)(hnums:∀i,i<L->-128<=nums i/\nums i<=127) :
  cI 13 [AB d k L nums Lb base q t,ι M] S0 (fun r S'=>MadeM M S0 S' r):=by
 refine jg func13 ntmps13 results13 ?_;simp -dsimp only[go_sem,aa,AB,ed,aU,bF,ca,cA];refine ax.intro fun o s=>?_;simp -dsimp only[go_sem,bL,bJ];have B:(S0.upd o ⟨27,1,6,fun j=>[AV.int .u8 d,.int .u8 k,.lst 1 L (fun i=>.int .i8 (nums i)),.lst 1 Lb base,.int .u8 q,.int .u16 t].getD j .any⟩) o=some ⟨27,1,6,fun j=>[AV.int .u8 d,.int .u8 k,.lst 1 L (fun i=>.int .i8 (nums i)),.lst 1 Lb base,.int .u8 q,.int .u16 t].getD j .any⟩:=bW;refine(K5 _ M d k L nums Lb base g h x y hnums).mono ?_;rintro r S1 ⟨n,H,b,e,rfl,a⟩;have f:=a _ _ B;simp -dsimp only[go_sem,aa,ed,bL,bJ,f];refine(A9 S1 n H q b z).mono ?_;rintro r S1' ⟨p,l,u,rfl,rfl⟩;simp -dsimp only[go_sem,aa,bL,bJ,f];refine(KU S1' n p t H b.one (by have:=b.eight;omega) (by have:=l.1;omega) om A).mono ?_
 rintro r S2 ⟨m,C⟩;have w:dh S0 S2:=(((dh.refl S0).upd s _).trans a).trans m;rcases C with rfl|⟨c,v,rfl,D,E,F⟩
 .simp only[go_sem,bL,bJ];exact⟨w,n,H,p,b,e,l,u,a6 rfl⟩
 .simp only[go_sem,bL,bJ];exact⟨w,n,H,p,b,e,l,u,aQ ⟨c,v,rfl,D,(((dh.refl S0).upd s _).trans a).none E,F⟩⟩

end Go.Proofs.YtdobfmlmenaajaaGreatDoor
