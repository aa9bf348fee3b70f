/-
  Lemmas for NeighbourForm.
-/
import Derived.Test.YtdobfmlmenaajaaGreatDoorK06
namespace Go.Proofs.YtdobfmlmenaajaaGreatDoor
open Go.RowKit Tryz
open _root_.Int renaming tmod→eV
open _root_.Option renaming none→ae
set_option maxHeartbeats 6400000
set_option maxRecDepth 4096
set_option linter.all false
attribute [local go_sem] Nat.reduceAdd Nat.reduceEqDiff Nat.reduceLeDiff Nat.reduceLT reduceCtorEq Int.ofNat_lt decide_true decide_false Int.zero_le_ofNat
attribute [local go_sem ↓] reduceIte
variable{x:AV}{K:AV->St->Prop}{D q:Int}{a c i j k n p:Nat}{g v w:Nat->Nat}{V:Nat->Nat->Nat}{S:St}{H R:az}
def RJ(Q:az)(n:Nat)(Rf R:az)(S0 S:St)(x:AV):Prop:=∃(b:Nat) (g:Nat->Nat),Ie Q n R Rf/\Gk Q n 190 193 R/\x=.sl 1 b 0 n/\dr S b g n n (o8 R)/\dy S0 S
def Lv(f1:j<i)(d:i<n)(e:a<n)(b:c<n):kh n (o8 R) (dS jS j i q) a c=o8 (nL R i j (-q)) a c:=by
 have h:=vV (n:=n) (i:=i) (j:=j) (a:=c) (q:=q) (f:=fun t=>R t a) om om b;rw[show kh n (o8 R) (dS jS j i q) a c=ap n (fun t=>dS jS j i q t c*R t a)from ay fun t _=>bU _ _,h];simp only[o8,nL];split
 .grind
 .grind
def Lu(f1:0<i)(d:i<n)(g:a<n)(e:c<n):kh n (o8 R) (fun a b=>jS (c8 (i-1) i a) b) a c=o8 (fun a b=>R (c8 (i-1) i a) b) a c:=by
 have h:=vU (n:=n) (p:=i) (a:=c) (f:=fun t=>R t a) f1 d e;rw[show kh n (o8 R) (fun a b=>jS (c8 (i-1) i a) b) a c=ap n (fun t=>jS (c8 (i-1) i t) c*R t a)from ay fun t _=>bU _ _,h];rfl
structure RedR(Q:az)(n:Nat)(R:az):Prop where
 inv:Gk Q n 190 193 R
 red:Eb (gT Q n R) n
def BF(n:Nat)(Q:az)(t:QF n Q):∃R,RedR Q n R/\∀S,cJ 53 [aL n n Q] S (fun r S'=>∃b g c gc S1,r=.tup [.sl 1 b 0 n,.sl 1 c 0 n,ι 0]/\ib S1 S' b g n n (gT Q n R)/\dr S' c gc n n (o8 R)/\dy S S1):=by
 have l:=t.one;have h2:=t.five;have I:=t.pd.sym;have V:=t.dt;have J:∀i j,i<n->j<n->nb (Q i j) 39:=fun i j K L=>by have:=t.ent i j K L;unfold nb;omega
 obtain⟨Rf,W,u,M⟩:=N6 (Q:=Q) (n:=n) (d:=190) (E:=193) I om om _ jS t.init (ag _);have v:Eb (gT Q n Rf) n:=Eb.of u.ls.pd M om (by rw[u.dn];omega)
 refine⟨Rf,⟨u,v⟩,fun S0=>?_⟩;refine iZ func53 ntmps53 results53 ?_;simp -dsimp only[go_sem,aa];refine(oE n Q 39 l om J om I true (by simp;exact t.pd.pos)).call ?_
 simp -dsimp only[go_sem,aa,show((0:Int) != 0)=false from rfl];refine(B6 n Q 39 l om J om).call ?_;simp -dsimp only[go_sem,aa,V];refine((yS n n Q 39 om l om J om).congr (B:=gT Q n jS) (fun a c f h=>(tg f h).symm)).pf.call ?_;simp -dsimp only[go_sem,aa,aL];refine(rM n l om _ _ (cC _ _)).mono ?_;rintro r S1 ⟨b,g,rfl,A⟩;simp only[go_sem];refine aC (fun O S=>∃R:az,O 6=aL n n (gT Q n R)/\RJ Q n Rf R S0 S (O 7)) (fun O S=>wt (matOf (O 6)) n) ?_ ?_
 .simp only[go_sem,aL,aY];exact⟨jS,rfl,b,g,W,t.init,rfl,A.1.congr fun a c _ _=>by simp only[o8,jS];by_cases e:a=c<;>simp[e,eq_comm],A.2.1⟩
 .rintro O S ⟨R,x,b,g,C,u,X,A,N⟩;obtain⟨bA,bT,bq⟩:=u.bits t;have m:∀i j,i<n->j<n->nb (gT Q n R i j) 17540:=bA;have q:∀k,k<=n->0<det k (gT Q n R):=fun k Y=>u.ls.pd.pos k Y
  cases C with
  | done s =>
   simp -dsimp only[go_sem,aa,x];refine(C4 n (gT Q n Rf) 17540 l om m om q .done s).call ?_;simp -dsimp only[go_sem,aa,x,evV];have D:∀i j,i<n->j<n->iw (gT Q n Rf i j):=fun i j K L=>OM (v.entry om K L);refine(wI n n (gT Q n Rf) l om l om D _ _ (cC _ _)).mono ?_;rintro r S2 ⟨F,G,rfl,o⟩;simp only[*,go_sem];exact⟨F,G,b,rfl,g,S,o,A.ext o.2.1,N⟩
  | size s p =>
   rename_i i j;obtain⟨f1,w,P,T,U⟩:=s;have s:wZ (gT Q n R) n (.size i j):=⟨f1,w,P,T,U⟩;have H:∀a c,a<n->c<n->nb (Qg (gT Q n R) (.size i j) a c) 17940:=fun a c _ _=>by
    simp only[Qg,dS];split
    .exact bq i j w f1
    .exact Mq a c _ om
   obtain⟨y,z⟩:=u.add I om om s;have Z:gT Q n (nL R i j (-Jh (gT Q n R) i j))=j8 (gT Q n R) i j (Jh (gT Q n R) i j):=by rw[wy I,yQ]
   simp -dsimp only[go_sem,aa,x];refine(C4 n (gT Q n R) 17540 l om m om q (.size i j) s).call ?_;simp -dsimp only[go_sem,aa,x,evV];refine((vH n (gT Q n R) (Qg (gT Q n R) (.size i j)) 17940 l om (fun a c f h=>(m a c f h).mono om) (fun a c f h=>H a c f h) om).congr (B:=gT Q n (nL R i j (-Jh (gT Q n R) i j))) (fun a c f h=>by rw[Z];exact Hm f1 w f h)).pf.call ?_
   simp -dsimp only[*,go_sem,aa];refine(kv n n n (o8 R) (Qg (gT Q n R) (.size i j)) 17940 l om l om l om (fun a c f h=>nb.mono (bT c a h f) om) (fun a c f h=>H a c f h) om _ _ (eI.mat A (cC _ _))).mono ?_;rintro r S2 ⟨F,G,rfl,o⟩;simp only[go_sem,x,X];exact⟨⟨_,rfl,F,G,p,y,rfl,o.1.congr fun a c f h=>Lv f1 w f h,N.trans o.2.1⟩,z⟩
  | swap s p =>
   rename_i i;obtain⟨f1,w,P,T,U⟩:=s;have s:wZ (gT Q n R) n (.swap i):=⟨f1,w,P,T,U⟩;have H:∀a c,a<n->c<n->nb (Qg (gT Q n R) (.swap i) a c) 17940:=fun a c _ _=>Mq _ c _ om;obtain⟨y,z⟩:=u.swap om om s;simp -dsimp only[go_sem,aa,x];refine(C4 n (gT Q n R) 17540 l om m om q (.swap i) s).call ?_;simp -dsimp only[go_sem,aa,x,evV];refine((vH n (gT Q n R) (Qg (gT Q n R) (.swap i)) 17940 l om (fun a c f h=>(m a c f h).mono om) (fun a c f h=>H a c f h) om).congr (B:=gT Q n (fun a b=>R (c8 (i-1) i a) b)) (fun a c f h=>Hl f1 w f h)).pf.call ?_;simp -dsimp only[*,go_sem,aa];refine(kv n n n (o8 R) (Qg (gT Q n R) (.swap i)) 17940 l om l om l om (fun a c f h=>nb.mono (bT c a h f) om) (fun a c f h=>H a c f h) om _ _ (eI.mat A (cC _ _))).mono ?_;rintro r S2 ⟨F,G,rfl,o⟩;simp only[*,go_sem];exact⟨⟨_,rfl,F,G,p,y,rfl,o.1.congr fun a c f h=>Lu f1 w f h,N.trans o.2.1⟩,z⟩
def FZ(n:Nat)(Q:az)(a:QF n Q):∃R,RedR Q n R/\PF 53 [aL n n Q] (.tup [av n n (gT Q n R),aL n n (o8 R),ι 0]):=by
 obtain⟨R,d,h⟩:=BF n Q a;refine⟨R,d,PF.of_spec ((h St.none).mono ?_)⟩;rintro _ S' ⟨b,g,c,gc,S1,rfl,e,f,_⟩;exact VR.tup3 e.1.vr f.vr (VR.mf rfl)

structure eW(n:Nat)(H:az):Prop where
 one:1<=n
 eight:n<=8
 red:Eb H n
 small:det n H<=10000
def eW.redB(h:eW n H):(∀i j,i<n->j<n->H i j=H j i)/\sn H n:=⟨h.red.pd.sym,⟨h.red.pd.pos,h.small,h.red.rows⟩⟩
def K9(S:St)(M d k L:Nat)(nums:Nat->Int)(Lb:Nat)(base:Nat->AV)(c:1<=M)(e:M<=5)(q:d<256)(s:k<256)(hnums:∀i,i<L->-128<=nums i/\nums i<=127) :
  cJ 38 [Ou d k L nums Lb base,ι M] S (fun r S'=>∃n H,eW n H/\n<=M/\r=av n n H/\dy S S'):=by
 refine iZ func38 ntmps38 results38 ?_;simp -dsimp only[go_sem,aa,Ou,dZ,aS,bF,bZ,ct];refine ax.intro fun u t=>?_;simp -dsimp only[go_sem,bL,bJ];refine(Nn M d k L nums Lb base c e q s hnums _ _ (cC _ _)).mono ?_;rintro r S1 ⟨b,g,n,A,⟨a,f⟩,rfl,o⟩;obtain⟨R,p,h⟩:=FZ n A ⟨⟨a.sym,a.pos⟩,a.one,a.five,fun i j l m=>by have:=a.ent i j l m;omega,a.small⟩
 simp -dsimp only[go_sem,aa];refine(uZ n n A a.one (by have:=a.five;omega) a.one (by have:=a.five;omega) (fun i j l m=>P3 (a.ent i j l m))).spec (eI.cons o.1.vr.va eI.nil) ?_
 simp -dsimp only[go_sem,aa];refine h.call ?_;simp only[go_sem];exact⟨n,gT A n R,⟨a.one,by have:=a.five;omega,p.red,by rw[p.inv.dn];exact a.small⟩,f,rfl,((dy.refl S).upd t _).trans o.2.1⟩
def ni(n:Nat)(f g:Nat->Int)(m:Int)(h:∀i,i<n->f i%m=g i%m):ap n f%m=ap n g%m:=by
 induction n with
 | zero=>rfl
 | succ n ih =>
  simp only[ap];rw[QD,ih (fun i a=>h i om),h n om,<-QD]
def eH(n:Nat)(H:az)(v:Nat->Int)(i:Nat):Int:=ap i fun i=>(ap n fun j=>H i j*v j)*v i
def Cg(n m:Nat)(H:az)(v:Nat->Int)(e:n<=8)(f:1<=m)(b:m<=2147483647):PF 76 [av n n H,aK n v,ι m] (ι (eH n H v n%m)):=by
 refine gN func76 ntmps76 results76 ?_;have g:¬((m:Int)=0):=om
 simp -dsimp only[go_sem,aa];refine(z9 n m H v e f b).call ?_;simp only[go_sem,aK];refine aC (fun O S=>∃i:Nat,i<=n/\O 1=aK n v/\O 2=ι m/\O 7=ι (eH n H v i%m)/\O 13=aK n (fun i=>(ap n fun j=>H i j*v j)%m)/\O 14=ι n/\O 15=ι i) (fun O S=>n-bS (O 15)) ?_ ?_
 .simp only[go_sem,aK];exact⟨0,om,by simp[eH,ap],rfl⟩
 .rintro O S ⟨i,x,y,z,A,h,k,l⟩;by_cases o:i<n
  .have a:(0:Int)<m:=om
   obtain⟨s,c⟩:∃s,s=ap n fun j=>H i j*v j:=⟨_,rfl⟩;have p:=aV s (show(m:Int)≠0 by omega)
   have B:=aU s a;have d:=aV (v i) (show(m:Int)≠0 by omega)
   have C:=aU (v i) a;have q:=cD p d;have D:s%m*(v i%m)<=2147483647*2147483647:=cw om om d om;have r:ω (s%m*(v i%m))=s%m*(v i%m):=i64_in om om;have t:eV (s%m*(v i%m)) m=(s%m*(v i%m))%m:=aO q;have s1:=aV (eH n H v i) (show(m:Int)≠0 by omega)
   have E:=aU (eH n H v i) a;have F:=aV (s%m*(v i%m)) (show(m:Int)≠0 by omega)
   have G:=aU (s%m*(v i%m)) a;have u:ω (eH n H v i%m+(s%m*(v i%m))%m)=eH n H v i%m+(s%m*(v i%m))%m:=i64_in om om;have w:eV (eH n H v i%m+(s%m*(v i%m))%m) m=eH n H v (i+1)%m:=by
    rw[aO om,AD];simp only[eH,ap,c]
   simp -dsimp only[*,go_sem,aa,aK];refine(Ed a om).call ?_;rw[c]at r t u w;simp only[*,go_sem,aK,aI (om:i<1000000),bS]
   exact⟨⟨i+1,om,rfl,rfl⟩,om⟩
  .obtain rfl:i=n:=om
   simp only[*,go_sem,aa,aK];exact VR.mf rfl
def iu(v:Nat->Int):Nat->Int
 | 0=>0
 | j+1=>if iu v j=0 then v j else iu v j
def AT(n p:Nat)(H:az)(v:Nat->Int):Prop:=(∀i,i<n->0<=v i/\v i<p)/\iu v n=1/\eH n H v n%p=0
def rc(n m:Nat)(H:az)(v:Nat->Int)(β:Bool)(o:n<=8)(p:1<=m)(f:m<=2147483647)(hβ:β=true↔AT n m H v):PF 75 [av n n H,ι m,aK n v] (.bool β):=by
 refine gN func75 ntmps75 results75 ?_;simp only[go_sem,aK,av,show((n:Int) != n)=false by simp]
 refine aC (fun O S=>∃i:Nat,i<=n/\(∀k,k<i->0<=v k/\v k<m)/\O 0=av n n H/\O 1=ι m/\O 2=aK n v/\O 7=ι (iu v i)/\O 15=aK n v/\O 16=ι n/\O 17=ι i) (fun O S=>n-bS (O 17)) ?_ ?_
 .simp only[go_sem,aK,av];exact⟨0,om,fun k q=>om,rfl,rfl⟩
 .rintro O S ⟨i,u,c,w,x,y,z,r,s,t⟩;by_cases d:i<n
  .by_cases A:v i<0
   .simp only[*,go_sem,aa,aK,av];rw[cP hβ fun h=>by have:=h.1 i d;omega]
    exact VR.mf rfl
   by_cases B:(m:Int)<=v i
   .simp only[*,go_sem,aa,aK,av];rw[cP hβ fun h=>by have:=h.1 i d;omega]
    exact VR.mf rfl
   have a:∀k,k<i+1->0<=v k/\v k<m:=fun k q=>by
    by_cases e:k=i
    .rw[e];omega
    .exact c k om
   by_cases b:iu v i=0
   .have g:iu v (i+1)=v i:=by simp[iu,b]
    simp only[*,go_sem,aa,aK,av,show((0:Int)==0)=true from rfl,aI (om:i<1000000),bS]
    exact⟨⟨i+1,om,a,by rw[g],rfl⟩,om⟩
   .have g:iu v (i+1)=iu v i:=by simp[iu,b]
    have j:(iu v i==0)=false:=by simp[b]
    simp only[*,go_sem,aa,aK,av,aI (om:i<1000000),bS]
    exact⟨⟨i+1,om,a,by rw[g],rfl⟩,om⟩
  .obtain rfl:i=n:=om
   by_cases b:iu v i=1
   .simp -dsimp only[*,go_sem,aa,aK,av,show((1:Int)==1)=true from rfl];refine(Cg i m H v o p f).call ?_;by_cases l:eH i H v i%(m:Int)=0
    .simp only[*,go_sem,aK,av,show((1:Int)==1)=true from rfl,show((0:Int)==0)=true from rfl];rw[hβ.2 ⟨c,b,l⟩];exact VR.mf rfl
    .simp only[*,go_sem,aK,av,show(eH i H v i%(m:Int)==0)=false by simpa using l,show((1:Int)==1)=true from rfl]
     rw[cP hβ fun h=>l h.2.2];exact VR.mf rfl
   .have j:(iu v i==1)=false:=by simp[b]
    simp only[*,go_sem,aK,av];rw[cP hβ fun h=>b h.2.1];exact VR.mf rfl
def zC(n l m:Nat)(H:az)(v:Nat->Int)(β:Bool)(b:n<=8)(c:1<=m)(a:m<=2147483647)(hβ:β=true↔l=n/\AT n m H v):PF 75 [av n n H,ι m,aK l v] (.bool β):=by
 by_cases e:l=n
 .subst e;exact rc l m H v β b c a (hβ.trans ⟨fun h=>h.2,fun h=>⟨rfl,h⟩⟩)
 .refine gN func75 ntmps75 results75 ?_;simp only[go_sem,aK,av,show((l:Int) != n)=true by simp;omega]
  rw[cP hβ fun h=>e h.1];exact VR.mf rfl
def sG(n m:Nat)(H:az)(v:Nat->Int)(b:n<=8)(c:1<=m)(a:m<=2147483647)(d:∀i,i<n->0<=v i/\v i<m):PF 75 [av n n H,ι m,aK n v] (.bool (iu v n==1&&eH n H v n%m==0)) :=
 rc n m H v _ b c a (by rw[cU,vL,vL];exact⟨fun h=>⟨d,h⟩,fun h=>h.2⟩)

def nk(e:2<=p)(f:p<25)(a:¬p%2=0∨p<4)(b:¬p%3=0∨p<9)(c:¬p%4=0∨p<16):tB p:=by
 refine⟨e,fun d g i=>?_⟩;have:d<5:=by
  rcases aB d 5 with h|h
  .exact h
  .have:5*5<=d*d:=bB h h;omega
 have:d=2∨d=3∨d=4:=om
 rcases this with rfl|rfl|rfl<;>omega
def jT(D:Int)(p:Nat):Prop:=3<=p/\p%2=1/\tB p/\¬D%p=0
def jT.pr(h:jT D p)(a:p<=9973):oW p:=⟨h.2.2.1,h.1,a⟩
open Classical in
noncomputable def gc(D:Int):Nat->Nat
 | 0=>0
 | p+1=>gc D p+if jT D p then 1 else 0
open Classical in
def Cm(D:Int)(q:Nat)(f:Nat)(h:tB q/\3<=q/\q%2=1){k:Nat}(c:k<=gc D q)(a:f=if D%q=0 then 0 else 1):k+f<=gc D (q+1):=by
 simp only[gc,jT,a];by_cases b:D%(q:Int)=0<;>simp[b,h.1,h.2.1,h.2.2]<;>omega
def ut(D:Int){p q:Nat}(h:p<=q){k:Nat}(a:k<=gc D p):k<=gc D q:=by
 induction q with
 | zero=>rw[show(0:Nat)=p by omega];exact a
 | succ q ih =>
  by_cases e:p=q+1
  .rw[<-e];exact a
  .exact bO (ih om) (by simp only[gc];omega)
def Sr(p:0<D)(q:D<=10000)(a b c d e:Nat)(f:Nat.Coprime a b)(g:Nat.Coprime (a*b) c)(i:Nat.Coprime (a*b*c) d)(j:Nat.Coprime (a*b*c*d) e)(r:10000<a*b*c*d*e) :
  ¬(D%(a:Int)=0/\D%(b:Int)=0/\D%(c:Int)=0/\D%(d:Int)=0/\D%(e:Int)=0):=by
 rintro⟨k,l,m,n,o⟩;have t:∀{x:Nat},D%(x:Int)=0->x∣D.natAbs:=fun h=>Int.ofNat_dvd_left.1 (dF h);have s:=BI om (j.mul_dvd_of_dvd_of_dvd (i.mul_dvd_of_dvd_of_dvd (g.mul_dvd_of_dvd_of_dvd (f.mul_dvd_of_dvd_of_dvd (t k) (t l)) (t m)) (t n)) (t o));omega
open Classical in
def N1{a b c d e f:Prop}(m:¬(a/\b/\c/\d/\e))(n:¬(a/\b/\c/\d/\f))(o:¬(a/\b/\c/\e/\f))(p:¬(a/\b/\d/\e/\f))(q:¬(a/\c/\d/\e/\f))(r:¬(b/\c/\d/\e/\f)){g h i j k l:Nat}
  (s:a∨1<=g) (t:b∨1<=h) (u:c∨1<=i) (v:d∨1<=j) (w:e∨1<=k) (x:f∨1<=l):2<=0+g+h+i+j+k+l:=by
 by_cases a<;>by_cases b<;>by_cases c<;>by_cases d<;>by_cases e<;>by_cases f<;>simp_all<;>omega
def Rk(a:0<D)(b:D<=10000):2<=gc D 18:=by
 have j:tB 3:=nk om om om om om;have k:tB 5:=nk om om om om om;have l:tB 7:=nk om om om om om;have c:tB 11:=nk om om om om om;have d:tB 13:=nk om om om om om;have e:tB 17:=nk om om om om om;have m:=Cm D 3 _ ⟨j,om,om⟩ (lu _) rfl
 have n:=Cm D 5 _ ⟨k,om,om⟩ (ut D (om:3+1<=5) m) rfl
 have o:=Cm D 7 _ ⟨l,om,om⟩ (ut D (om:5+1<=7) n) rfl
 have f:=Cm D 11 _ ⟨c,om,om⟩ (ut D (om:7+1<=11) o) rfl
 have g:=Cm D 13 _ ⟨d,om,om⟩ (ut D (om:11+1<=13) f) rfl
 have i:=Cm D 17 _ ⟨e,om,om⟩ (ut D (om:13+1<=17) g) rfl
 refine bO ?_ i;have t:∀q:Nat,D%(q:Int)=0∨1<=(if D%(q:Int)=0 then 0 else 1:Nat):=fun q=>by
  by_cases h:D%(q:Int)=0
  .exact a9 h
  .right;simp[h]
 exact N1 (Sr a b 3 5 7 11 13 dc dc dc dc dc) (Sr a b 3 5 7 11 17 dc dc dc dc dc)
  (Sr a b 3 5 7 13 17 dc dc dc dc dc) (Sr a b 3 5 11 13 17 dc dc dc dc dc)
  (Sr a b 3 7 11 13 17 dc dc dc dc dc) (Sr a b 5 7 11 13 17 dc dc dc dc dc)
  (t 3) (t 5) (t 7) (t 11) (t 13) (t 17)
def Jg(a:p%2=1):gc D (p+2)=gc D (p+1):=by
 have:¬jT D (p+1):=fun h=>by have:=h.2.1;omega
 simp[gc,this]
def eW.ent(h:eW n H):Ir n H:=fun i j a b=>by
 have:=h.red.entry h.eight a b;omega
def eW.det(h:eW n H):0<det n H/\det n H<=10000:=⟨h.red.pd.2 n (ag _),h.small⟩
def gpI(D:Int)(p s:Nat):Prop:=3<=p/\p<=17/\p%2=1/\gc D p+s<=1
def AZ(S:St)(n:Nat)(H:az)(k:Nat)(b:eW n H)(m:k<256):cJ 39 [av n n H,.int .u8 k] S (fun r S'=>∃p:Nat,jT (det n H) p/\p<=17/\r=ι p/\S'=S):=by
 refine iZ func39 ntmps39 results39 ?_;have i:=b.eight;have o:eV (k:Int) 2=((k%2:Nat):Int):=by rw[qR]<;>rfl
 have q:ω ((k%2:Nat):Int)=((k%2:Nat):Int):=i64_in om om;simp only[*,go_sem,show ¬((2:Int)=0) by decide]
 have t:=Rk b.det.1 b.det.2;refine aC (fun O S'=>∃p s:Nat,gpI (det n H) p s/\O 0=av n n H/\O 5=ι s/\O 6=ι p/\S'=S) (fun O S=>18-bS (O 6)) ?_ ?_
 .simp only[go_sem];refine⟨3,k%2,⟨om,om,om,?_⟩,rfl,rfl⟩
  have:gc (det n H) 3=0:=by simp[gc,jT]
  omega
 .rintro O S' ⟨p,s,⟨g,e,c,j⟩,u,v,w,rfl⟩;have wp:ω ((p:Int)+2)=((p+2:Nat):Int):=dP om om;rcases fL (jT (det n H) p)with d|d
  .simp -dsimp only[*,go_sem,aa];refine(Eh n p H b.one om b.ent b.det true (by simp only[true_iff];exact⟨qP.of (d.pr om),d.2.2.2⟩)).call ?_
   have a:gc (det n H) (p+1)=gc (det n H) p+1:=by simp[gc,d]
   by_cases l:s=0
   .subst l;simp only[*,go_sem,show((((0:Nat)):Int)==0)=true from rfl];exact⟨p,d,e,rfl⟩
   .obtain rfl:s=1:=om
    have f:p+2<=17:=by
     rcases aB p 16 with h|h
     .omega
     .obtain rfl:p=17:=om
      rw[show(17:Nat)+1=18 from rfl]at a;omega
    simp only[*,go_sem,show((((1:Nat)):Int)==0)=false from rfl,show ω ((((1:Nat)):Int)-1)=((0:Nat):Int)from dP om om,bS];exact⟨⟨p+2,0,⟨om,om,om,by rw[Jg c,a];omega⟩,rfl,rfl⟩,om⟩
  .simp -dsimp only[*,go_sem,aa];refine(Eh n p H b.one om b.ent b.det false (by simp only[dB,Tb];exact fun h=>d ⟨g,c,h.1.2.2,h.2⟩)).call ?_
   have a:gc (det n H) (p+1)=gc (det n H) p:=by simp[gc,d]
   have f:p+2<=17:=by
    rcases aB p 16 with h|h
    .omega
    .obtain rfl:p=17:=om
     rw[show(17:Nat)+1=18 from rfl]at a;omega
   simp only[*,go_sem,bS];exact⟨⟨p+2,s,⟨om,om,om,by rw[Jg c,a];omega⟩,rfl,rfl⟩,om⟩

def oK(p:Nat)(v:Nat->Nat):Nat->Nat
 | 0=>0
 | k+1=>oK p v k*p+v k
def CV(h:∀i,i<k->v i<p):oK p v k<p^k:=by
 induction k with
 | zero=>simp[oK]
 | succ k ih =>
  have a:=ih (fun i c=>h i om);have d:=h k om;simp only[oK];have b:(oK p v k+1)*p<=p^k*p:=bB a (ag _);rw[dJ,mM]at b;rw[bV];omega
def ze(h:∀i,i<k->v i=w i):oK p v k=oK p w k:=by
 induction k with
 | zero=>rfl
 | succ k ih=>simp only[oK];rw[ih (fun i a=>h i om),h k om]
theorem vS{p:Nat}{v w:Nat->Nat}{i:Nat}(a:∀k,k<i->w k=v k)(b:w i=v i+1):∀n,(∀k,i<k->k<i+1+n->w k=0/\v k<p)->oK p v (i+1+n)<oK p w (i+1+n)
 | 0,_=>by
  simp only[oK];rw[ze (p:=p) a,b];omega
 | n+1,h=>by
  have ih:=vS a b n (fun k c d=>h k c om);have e:=h (i+1+n) om om;rw[<-kU];simp only[oK,e.1,cu];have f:(oK p v (i+1+n)+1)*p<=oK p w (i+1+n)*p:=bB ih (ag _);rw[dJ,mM]at f;omega
structure jo(n p:Nat)(H:az)(v:Nat->Nat):Prop where
 lt:∀i,i<n->v i<p
 lead:iu (fun i=>v i) n=1
 norm:eH n H (fun i=>v i) n%p=0
structure Gg(S0 S:St)(n p:Nat)(H:az)(j:Nat)(x:AV)(c:Nat)(g:Nat->Nat)(V:Nat->Nat->Nat)(w:Nat->Nat):Prop where
 list:cY 29 1 S0 S x j (fun i=>.sl 1 (g i) 0 n)
 rows:∀i,i<j->a6 S (g i) 2 1 n (fun k=>ι (V i k))/\S0 (g i)=ae/\g i≠c
 good:∀i,i<j->jo n p H (V i)
 now:a6 S c 2 1 n (fun k=>ι (w k))
 new:S0 c=ae
def Gg.set{S0:St}(h:Gg S0 S n p H j x c g V w){g':Nat->AV}(l:S c=some ⟨2,1,n,g'⟩){i z:Nat} :
  Gg S0 (S.upd c ⟨2,1,n,aQ g' i (ι z)⟩) n p H j x c g V (fun k=>if k=i then z else w k):=by
 refine⟨h.list.upd h.new (fun d o e=>h.list.other l om (e▸o)) _,fun a q=>?_,h.good,?_,h.new⟩
 .obtain⟨b,f,m⟩:=h.rows a q;exact⟨b.upd m _,f,m⟩
 .refine a6.here fun k r=>?_;obtain⟨s,b,f⟩:=h.now;rw[l]at b;cases b;simp only[aQ];split
  .rfl
  .exact f k r
def digI(n p k:Nat)(v w:Nat->Nat):Prop:=k<=n/\(∀i,i<n->v i<p)/\(∀i,i<k->w i=v i)/\∀i,k<=i->i<n->w i=0
def allH(n p j:Nat)(v:Nat->Nat):Prop:=(∀i,i<n->v i<p)/\j<=oK p v n
noncomputable def Rb(n p:Nat)(S:St)(x:AV):Nat:=match x with
 | .sl _ c _ _=>(match S c with
  | some X=>p^n-oK p (fun i=>bS (X.g i)) n
  | ae=>0)
 | _=>0
def yB(h:a6 S c 2 1 n (fun k=>ι (w k))):Rb n p S (.sl 1 c 0 n)=p^n-oK p w n:=by
 obtain⟨g,a,b⟩:=h;simp only[Rb,a];rw[ze (w:=w) fun i d=>by rw[b i d];simp[bS]]
def AllR(S0 S:St)(n p:Nat)(H:az)(r:AV):Prop:=∃j c g V w,j<=65536/\Gg S0 S n p H j r c g V w
def Ko(x:AV):Nat:=match x with
 | .int _ z=>(z+1).toNat
 | _=>0
def KI(h:a6 S c 2 1 n (fun k=>ι (w k)))(d:0<n)(p:n<=1000)
  (e:∀b h',S b=ae->(∀k,k<n->h' k=ι (w k))->K (.sl 1 b 0 n) (S.upd b ⟨2,1,n,h'⟩)):gD 29 29 .nil (.sl 1 c 0 n) S K:=by
 obtain⟨g,f,a⟩:=h;have i:DD S (.sl 1 c 0 n)=some (1,n,fun j=>g (0+j),some c):=by simp[DD,f]
 unfold gD;rw[show dO 29=some 2 from rfl,i];refine⟨rfl,rfl,rfl,d,fun j l=>?_,om,fun b m=>e b _ m fun k o=>?_⟩
 .show ei 1 (g (0+j));rw[aJ,a j l];simp[ei]
 .show g (0+k)=_;rw[aJ,a k o]
def Nw(S0:St)(n p:Nat)(H:az)(h1:1<=n)(h2:n<=8)(hp:2<=p)(hp2:p<=900)(hpn:p^n<=65536) :
  cJ 92 [av n n H,ι p] S0 (fun r S'=>AllR S0 S' n p H r):=by
 refine iZ func92 ntmps92 results92 ?_;simp -dsimp only[go_sem,av]
 repeat refine an ?_
 refine ax.intro fun W P=>?_;simp only[go_sem];refine aC (fun O S=>∃j x c g V w,Gg S0 S n p H j x c g V w/\allH n p j w/\O 0=av n n H/\O 1=ι p/\O 5=x/\O 6=.sl 1 c 0 n) (fun O S=>Rb n p S (O 6)) ?_ ?_
 .simp only[go_sem,av];refine⟨0,_,W,fun _=>0,fun _ _=>0,fun _=>0,⟨cY.nil ((dy.refl S0).upd P _) _,fun i m=>om,fun i m=>om,a6.here fun i m=>rfl,P⟩,⟨fun i m=>by show 0<p;omega,om⟩,rfl,rfl⟩
 .rintro O S ⟨j,x,c,g,V,w,s,⟨t,hj⟩,K,L,M,N⟩;have hvl:=CV (p:=p) t;simp -dsimp only[*,go_sem,aa,av];have hI:oZ S c n (fun k=>w k):=s.now;refine(sG n p H (fun k=>w k) h2 om om (fun i m=>by have:=t i m;omega)).spec (eI.same (eI.same (eI.i64s hI eI.nil))) ?_
  rcases fL (jo n p H w)with Q|Q
  .have o:(iu (fun k=>(w k:Int)) n==1&&eH n H (fun k=>(w k:Int)) n%(p:Int)==0)=true:=by simp only[Q.lead,Q.norm];rfl
   simp -dsimp only[*,go_sem,av];refine KI s.now om om ?_;intro d h' R hh;simp -dsimp only[*,go_sem];refine ax.intro fun b18 u=>?_;have n18d:=(af u).1;have X:c≠d:=s.now.fresh R;simp -dsimp only[*,go_sem];have y:=(s.list.upd (s.list.1.none R) (s.list.fresh R) ⟨2,1,n,h'⟩);have E:=y.fresh u;refine cY.app29 (y.upd (y.1.none u) E _) om (show ei 1 (.sl 1 d 0 n) by simp[ei]) (aR ⟨_,_,_,rfl,ca,rfl,fun h=>E _ h rfl⟩) ?_
   intro c' S' Y Z hk3;have F:Gg S0 S' n p H (j+1) (.sl 1 c' 0 (j+1)) c (fun i=>if i=j then d else g i) (fun i=>if i=j then w else V i) w:=by
    have G:=y.upd (y.1.none u) E ⟨29,1,1,fun j=>[AV.sl 1 d 0 n].getD j AV.any⟩;have keep1:∀{b:Nat} {gg:Nat->AV},a6 (S.upd d ⟨2,1,n,h'⟩) b 2 1 n gg->a6 S' b 2 1 n gg:=fun {b gg} o=>by
     obtain⟨gb,U,q2⟩:=o.upd (o.fresh u) ⟨29,1,1,fun j=>[AV.sl 1 d 0 n].getD j AV.any⟩;exact⟨gb,Z b _ U (G.other U om),q2⟩
    have keep:∀{b:Nat} {gg:Nat->AV},a6 S b 2 1 n gg->a6 S' b 2 1 n gg:=fun {b gg} o=>keep1 (o.upd (o.fresh R) _);refine⟨Y.congr fun i m=>?_,fun i m=>?_,fun i m=>?_,keep s.now,s.new⟩
    .show(if i=j then AV.sl 1 d 0 n else AV.sl 1 (g i) 0 n)=AV.sl 1 (if i=j then d else g i) 0 n
     split<;>rfl
    .by_cases e:i=j
     .simp only[e,aE];exact⟨keep1 (a6.here hh),s.list.1.none R,ai X⟩
     .simp only[e,aH];obtain⟨U,q2,q3⟩:=s.rows i om;exact⟨keep U,q2,q3⟩
    .by_cases e:i=j
     .simp only[e,aE];exact Q
     .simp only[e,aH];exact s.good i om
   generalize (fun i=>if i=j then d else g i)=g2 at F
   generalize (fun i=>if i=j then w else V i)=V2 at F
   have wn:ω ((n:Int)-1)=(n:Int)-1:=i64_in om om;simp only[*,go_sem];refine aC (fun O S=>∃k w',Gg S0 S n p H (j+1) (.sl 1 c' 0 (j+1)) c g2 V2 w'/\digI n p k w w'/\O 0=av n n H/\O 1=ι p/\O 5=(.sl 1 c' 0 (j+1))/\O 6=.sl 1 c 0 n/\O 7=ι ((k:Int)-1)) (fun O S=>Ko (O 7)) ?_ ?_
   .simp only[*,go_sem,av];exact⟨n,w,F,⟨ag _,t,fun _ _=>rfl,fun i a b=>om⟩,rfl⟩
   .rintro O S2 ⟨k,w',f,⟨hk,hv,l,q⟩,K,L,M,N,I⟩;rcases bD k with rfl|hk0
    .simp only[*,go_sem,aa,av,show((((0:Nat):Int)-1)<0) by decide,show ¬((0:Int)<=(((0:Nat):Int)-1)) by decide]
     exact⟨(j+1),c,_,_,_,om,f⟩
    .obtain⟨i,rfl⟩:∃i,k=i+1:=⟨k-1,om⟩
     rw[show(((i+1:Nat):Int)-1)=(i:Int) by omega]at I
     have m:i<n:=om
     obtain⟨g',C,u2⟩:=f.now;have T:g' i=ι (w i):=by rw[u2 i m];show ι (w' i:Nat)=_;rw[l i om]
     have wp:ω ((p:Int)-1)=((p-1:Nat):Int):=dP om om;have hwi:=t i m;by_cases he:w i=p-1
     .have o:(((w i:Nat):Int)==((p-1:Nat):Int))=true:=by simp[he]
      have wi:ω ((i:Int)-1)=(i:Int)-1:=i64_in om om;simp only[go_sem,aa,K,L,M,N,av,I,m,C,T,wp,o,wi,Ko];refine⟨⟨i,_,f.set C (i:=i) (z:=0),⟨om,hv,fun a D=>?_,fun a D J=>?_⟩,rfl⟩,om⟩
      .show(if a=i then 0 else w' a)=w a
       rw[ah om,l a om]
      .show(if a=i then 0 else w' a)=0
       split
       .rfl
       .exact q a om J
     .have o:(((w i:Nat):Int)==((p-1:Nat):Int))=false:=by simp;omega
      have wi:ω ((w i:Int)+1)=((w i+1:Nat):Int):=dP om om;have A:=f.set C (i:=i) (z:=w i+1);have hlt:oK p w n<oK p (fun k=>if k=i then w i+1 else w' k) n:=by
       have:=vS (p:=p) (v:=w) (w:=fun k=>if k=i then w i+1 else w' k) (i:=i) (fun k hk=>by show(if k=i then w i+1 else w' k)=w k;rw[ah om,l k om]) sm (n-(i+1)) (fun k h3 h4=>⟨by show(if k=i then w i+1 else w' k)=0;rw[ah om,q k om om],t k om⟩)
       rwa [(om:i+1+(n-(i+1))=n)]at this
      have B:∀a,a<n->(fun k=>if k=i then w i+1 else w' k) a<p:=fun a D=>by
       show(if a=i then w i+1 else w' a)<p
       split
       .omega
       .rcases aB a (i+1)with h|h
        .rw[l a h];exact t a D
        .rw[q a h D];omega
      have G:=CV (p:=p) B;have m1:=yB (p:=p) s.now;have m2:=yB (p:=p) A.now;simp only[go_sem,aa,K,L,M,N,av,I,m,C,T,wp,o,wi,(om:¬((i:Int)<0))]
      refine⟨⟨(j+1),_,c,_,_,_,A,⟨B,om⟩,sm⟩,?_⟩
      rw[m1,m2];omega
  .have o:(iu (fun k=>(w k:Int)) n==1&&eH n H (fun k=>(w k:Int)) n%(p:Int)==0)=false:=by
    simp only[Bool.and_eq_false_iff,fU];exact dd fun h=>Q ⟨t,dd fun h5=>h (a9 h5),dd fun h5=>h (aR h5)⟩
   simp only[*,go_sem,av];have wn:ω ((n:Int)-1)=(n:Int)-1:=i64_in om om;simp only[go_sem,wn];refine aC (fun O S=>∃k w',Gg S0 S n p H j x c g V w'/\digI n p k w w'/\O 0=av n n H/\O 1=ι p/\O 5=x/\O 6=.sl 1 c 0 n/\O 7=ι ((k:Int)-1)) (fun O S=>Ko (O 7)) ?_ ?_
   .simp only[*,go_sem,av];exact⟨n,w,s,⟨ag _,t,fun _ _=>rfl,fun i a b=>om⟩,rfl⟩
   .rintro O S2 ⟨k,w',f,⟨hk,hv,l,q⟩,K,L,M,N,I⟩;rcases bD k with rfl|hk0
    .simp only[*,go_sem,aa,av,show((((0:Nat):Int)-1)<0) by decide,show ¬((0:Int)<=(((0:Nat):Int)-1)) by decide]
     exact⟨j,c,_,_,_,om,f⟩
    .obtain⟨i,rfl⟩:∃i,k=i+1:=⟨k-1,om⟩
     rw[show(((i+1:Nat):Int)-1)=(i:Int) by omega]at I
     have m:i<n:=om
     obtain⟨g',C,u2⟩:=f.now;have T:g' i=ι (w i):=by rw[u2 i m];show ι (w' i:Nat)=_;rw[l i om]
     have wp:ω ((p:Int)-1)=((p-1:Nat):Int):=dP om om;have hwi:=t i m;by_cases he:w i=p-1
     .have o:(((w i:Nat):Int)==((p-1:Nat):Int))=true:=by simp[he]
      have wi:ω ((i:Int)-1)=(i:Int)-1:=i64_in om om;simp only[go_sem,aa,K,L,M,N,av,I,m,C,T,wp,o,wi,Ko];refine⟨⟨i,_,f.set C (i:=i) (z:=0),⟨om,hv,fun a D=>?_,fun a D J=>?_⟩,rfl⟩,om⟩
      .show(if a=i then 0 else w' a)=w a
       rw[ah om,l a om]
      .show(if a=i then 0 else w' a)=0
       split
       .rfl
       .exact q a om J
     .have o:(((w i:Nat):Int)==((p-1:Nat):Int))=false:=by simp;omega
      have wi:ω ((w i:Int)+1)=((w i+1:Nat):Int):=dP om om;have A:=f.set C (i:=i) (z:=w i+1);have hlt:oK p w n<oK p (fun k=>if k=i then w i+1 else w' k) n:=by
       have:=vS (p:=p) (v:=w) (w:=fun k=>if k=i then w i+1 else w' k) (i:=i) (fun k hk=>by show(if k=i then w i+1 else w' k)=w k;rw[ah om,l k om]) sm (n-(i+1)) (fun k h3 h4=>⟨by show(if k=i then w i+1 else w' k)=0;rw[ah om,q k om om],t k om⟩)
       rwa [(om:i+1+(n-(i+1))=n)]at this
      have B:∀a,a<n->(fun k=>if k=i then w i+1 else w' k) a<p:=fun a D=>by
       show(if a=i then w i+1 else w' a)<p
       split
       .omega
       .rcases aB a (i+1)with h|h
        .rw[l a h];exact t a D
        .rw[q a h D];omega
      have G:=CV (p:=p) B;have m1:=yB (p:=p) s.now;have m2:=yB (p:=p) A.now;simp only[go_sem,aa,K,L,M,N,av,I,m,C,T,wp,o,wi,(om:¬((i:Int)<0))]
      refine⟨⟨j,_,c,_,_,_,A,⟨B,om⟩,sm⟩,?_⟩
      rw[m1,m2];omega

def LineR(S0 S:St)(n p:Nat)(H:az)(r:AV):Prop:=dy S0 S/\(r=.tup [.nil,.bool false]∨∃d v,r=.tup [.sl 1 d 0 n,.bool true]/\a6 S d 2 1 n (fun k=>ι ((v k:Nat):Int))/\S0 d=ae/\jo n p H v)
def KY(S0:St)(n p t:Nat)(H:az)(k:1<=n)(i:n<=8)(l:2<=p)(f:p<=900)(v:t<65536):cJ 40 [av n n H,ι p,.int .u16 t] S0 (fun r S'=>LineR S0 S' n p H r):=by
 refine iZ func40 ntmps40 results40 ?_;simp -dsimp only[go_sem,aa,av];refine(KV n p i om f).call ?_;by_cases a:p^n<=65536
 .simp -dsimp only[go_sem,aa,a];refine(Nw S0 n p H k i l f a).mono ?_;rintro r S' ⟨j,c,g,V,w,x,e⟩;rcases e.list.2 with⟨rfl,rfl⟩|⟨d,m,rfl,g',o,q⟩
  .simp only[go_sem,show((0:Int)==0)=true from rfl];exact⟨e.list.1,a9 rfl⟩
  .by_cases h:j=0
   .subst h;simp only[go_sem,aa,o,show((((0:Nat):Int))==0)=true from rfl];exact⟨e.list.1,a9 rfl⟩
   .have y:(((j:Nat):Int)==0)=false:=by simp;omega
    have z:ω (t:Int)=t:=i64_in om om;have b:t%j<j:=di _ om;simp only[*,go_sem,aa,(om:¬((j:Int)=0)),pZ,q _ b]
    obtain⟨s,u,A⟩:=e.rows _ b;exact⟨e.list.1,aR ⟨_,_,rfl,s,u,e.good _ b⟩⟩
 .simp only[go_sem,aa,a];exact⟨dy.refl _,a9 rfl⟩
structure VecI(S0 S:St)(c n:Nat)(a:Nat->Int):Prop where
 has:a6 S c 2 1 n (fun k=>ι (a k))
 new:S0 c=ae
 ext:dy S0 S
 rng:∀k,k<n->-128<=a k/\a k<=127
def VecR(S0 S:St)(n:Nat)(r:AV):Prop:=∃c a,r=.sl 1 c 0 n/\VecI S0 S c n a
def VecM(S0 S:St)(bt c n i:Nat):Prop:=(∃a,VecI S0 S c n a)/\iS S bt i/\S0 bt=ae
def Qo(S0:St)(L n:Nat)(nums:Nat->Int)(D:n<=8)(hnums:∀i,i<L->-128<=nums i/\nums i<=127):cJ 34 [.lst 1 L (fun i=>.int .i8 (nums i)),ι n] S0 (fun r S'=>VecR S0 S' n r):=by
 refine iZ func34 ntmps34 results34 ?_;simp -dsimp only[go_sem,aS,bF,bZ,ct];refine ax.intro fun d j=>?_
 repeat refine an ?_
 refine ax.intro fun c e=>?_;have n12_10:=(af e).1;simp only[go_sem,cQ];refine aC (fun O S=>∃i:Nat,i<=n/\VecM S0 S d c n i/\O 5=.ptr 1 d 0/\O 6=.sl 1 c 0 n/\O 14=ι n/\O 15=ι i) (fun O S=>n-bS (O 15)) ?_ ?_
 .simp only[go_sem];refine⟨0,om,⟨⟨fun _=>0,a6.here fun i u=>rfl,(af e).2,((dy.refl S0).upd j _).upd (af e).2 _,fun k f=>om⟩,?_,j⟩,rfl⟩
  exact iS.upd ⟨L,nums,0,_,ca,rfl,rfl,ag _,hnums⟩ (ai n12_10) _
 .rintro O S ⟨i,u,⟨⟨a,h⟩,v,l⟩,w,x,m,o⟩;by_cases p:i<n
  .simp -dsimp only[*,go_sem,aa];refine(wO S d i v om).mono ?_;rintro r S' ⟨z,y,rfl,q,f⟩;obtain⟨g,A,B⟩:=h.has;have s:S' c=some ⟨2,1,n,g⟩:=by rw[f c n12_10];exact A
   simp only[go_sem,aa,w,x,m,o,p,s,aI (om:i<1000000),bS]
   refine⟨⟨i+1,om,⟨⟨fun k=>if k=i then z else a k,a6.here fun k f=>?_,h.new,?_,fun k f=>?_⟩,q.upd (ai n12_10) _,l⟩,rfl⟩,om⟩
   .simp only[aQ];split
    .rfl
    .exact B k f
   .refine dy.upd (fun b X t=>?_) h.new _;have C:b≠d:=by rintro rfl;rw[l]at t;cases t
    rw[f b C];exact h.ext b X t
   .show -128<=(if k=i then z else a k)/\(if k=i then z else a k)<=127
    split
    .exact y
    .exact h.rng k f
  .obtain rfl:i=n:=om
   simp only[*,go_sem,aa];exact⟨c,a,rfl,h⟩
def Av(d k L:Nat)(nums:Nat->Int)(Lb:Nat)(base:Nat->AV)(q t:Nat):AV:=.agg [.int .u8 d,.int .u8 k,.lst 1 L (fun i=>.int .i8 (nums i)),.lst 1 Lb base,.int .u8 q,.int .u16 t]
def MadeM(M:Nat)(S0 S:St)(r:AV):Prop:=dy S0 S/\∃n H p,eW n H/\n<=M/\jT (det n H) p/\p<=17 /\
 (r=.tup [av n n H,ι p,.nil,.bool false]∨∃d v,r=.tup [av n n H,ι p,.sl 1 d 0 n,.bool true]/\a6 S d 2 1 n (fun k=>ι ((v k:Nat):Int))/\S0 d=ae/\jo n p H v)
def L8(S0:St)(M d k L:Nat)(nums:Nat->Int)(Lb:Nat)(base:Nat->AV)(q t:Nat)(g:1<=M)(h:M<=5)(x:d<256)(y:k<256)(z:q<256)(A:t<65536)(hnums:∀i,i<L->-128<=nums i/\nums i<=127) :
  cJ 13 [Av d k L nums Lb base q t,ι M] S0 (fun r S'=>MadeM M S0 S' r):=by
 refine iZ func13 ntmps13 results13 ?_;simp -dsimp only[go_sem,aa,Av,dZ,aS,bF,bZ,ct];refine ax.intro fun o s=>?_;simp -dsimp only[go_sem,bL,bJ];have B:(S0.upd o ⟨27,1,6,fun j=>[AV.int .u8 d,.int .u8 k,.lst 1 L (fun i=>.int .i8 (nums i)),.lst 1 Lb base,.int .u8 q,.int .u16 t].getD j .any⟩) o=some ⟨27,1,6,fun j=>[AV.int .u8 d,.int .u8 k,.lst 1 L (fun i=>.int .i8 (nums i)),.lst 1 Lb base,.int .u8 q,.int .u16 t].getD j .any⟩:=ca;refine(K9 _ M d k L nums Lb base g h x y hnums).mono ?_;rintro r S1 ⟨n,H,b,e,rfl,a⟩;have f:=a _ _ B;simp -dsimp only[go_sem,aa,dZ,bL,bJ,f];refine(AZ S1 n H q b z).mono ?_;rintro r S1' ⟨p,l,u,rfl,rfl⟩;simp -dsimp only[go_sem,aa,bL,bJ,f];refine(KY S1' n p t H b.one (by have:=b.eight;omega) (by have:=l.1;omega) om A).mono ?_
 rintro r S2 ⟨m,C⟩;have w:dy S0 S2:=(((dy.refl S0).upd s _).trans a).trans m;rcases C with rfl|⟨c,v,rfl,D,E,F⟩
 .simp only[go_sem,bL,bJ];exact⟨w,n,H,p,b,e,l,u,a9 rfl⟩
 .simp only[go_sem,bL,bJ];exact⟨w,n,H,p,b,e,l,u,aR ⟨c,v,rfl,D,(((dy.refl S0).upd s _).trans a).none E,F⟩⟩

end Go.Proofs.YtdobfmlmenaajaaGreatDoor
