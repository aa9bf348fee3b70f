/-
  Lemmas for NeighbourBack.
-/
import Derived.Test.YtdobfmlmenaajaaGreatDoorB10
namespace Go.Proofs.YtdobfmlmenaajaaGreatDoor
open Go.RowKit Tryz
open _root_.Int renaming tmod→et,tdiv→pV
open _root_.Option renaming none→ae
set_option maxHeartbeats 6400000
set_option maxRecDepth 4096
set_option linter.all false
attribute [local go_sem] Nat.reduceAdd Nat.reduceEqDiff Nat.reduceLeDiff Nat.reduceLT reduceCtorEq Int.ofNat_lt decide_true decide_false Int.zero_le_ofNat
attribute [local go_sem ↓] reduceIte
variable{x x' y y':AV}{K:AV->St->Prop}{Q:AX->Tm->St->Prop}{ops:Array Oper}{a p z:Int}{BL:List (Nat×AV)}{args l l':List AV}{N R b b11 b2 b3 b5 b7 b8 b9 bw es f i j k k0 kk m n t top ty:Nat}{g0 g1:Nat->AV}{M d v v1 v2:Nat->Int}{c g g' ls σ:Nat->Nat}{E:Nat->Nat->AV}{o:Oper}{G:Prop}{S S' S0 S1 T:St}{O:Tm}{A B C C' W w:az}{X:eA}{L:gP->Prop}
def tL(n m:Nat)(A:az)(g:1<=n)(h:n<=16)(j:1<=m)(k:m<=16):PF 223 [av n m A] (.bool true):=by
 refine iy func223 ntmps223 results223 ?_;have b:0<n:=om
 have a:(0:Int)<(n:Int):=om
 simp only[go_sem,aK,av,a,(om:¬((n:Int)<1)),(om:¬((16:Int)<(n:Int))),(om:¬((m:Int)<1)),(om:¬((16:Int)<(m:Int)))]
 refine aC (fun O S=>∃i:Nat,i<=n/\O 0=av n m A/\O 27=av n m A/\O 28=ι n/\O 29=ι i) (fun O S=>n-bO (O 29)) ?_ ?_
 .simp only[go_sem,aK,av];exact⟨0,om,rfl⟩
 .rintro O S ⟨i,l,o,c,d,e⟩;by_cases f:i<n
  .simp only[*,go_sem,aK,av,show((m:Int) != m)=false by simp,aF (om:i<1000000),bO]
   exact⟨⟨i+1,om,rfl⟩,om⟩
  .simp only[*,go_sem,aK,av];exact VR.mf rfl
def k8(m:Int)(a:2<=m)(b:m<=2147483647):PF 224 [ι m] (ι 0):=by
 refine iy func224 ntmps224 results224 ?_;simp only[go_sem,(om:¬(m<2)),(om:¬((2147483647:Int)<m))]
 exact VR.mf rfl
def xI(n:Nat)(A:az)(b:1<=n)(d:n<=8):PF 226 [av n n A] (.bool true):=by
 refine iy func226 ntmps226 results226 ?_;have c:0<n:=om
 have a:(0:Int)<(n:Int):=om
 simp -dsimp only[go_sem,aa];refine(tL n n A b om b om).call ?_;simp only[go_sem,aK,av,a,show((n:Int)<=8) by omega,show((n:Int)==n)=true by simp]
 exact VR.mf rfl
def ED{x m:Int}(d:1<=m)(a:m<=2147483647):ω (et x m+m)=et x m+m/\et (et x m+m) m=x%m:=by
 have e:et x m<m:=SZ x om;have f:-m<et x m:=by
  have:=SZ (-x) (om:0<m)
  rw[QH]at this;omega
 have b:et (et x m+m) m=x%m:=by
  rw[aJ om,Int.add_emod_right];have g:x=m*pV x m+et x m:=(yj x m).symm;have c:x%m=(et x m+m*pV x m)%m:=by rw[<-(om:x=et x m+m*pV x m)]
  rw[c,qW]
 have h:=aW x (om:m≠0)
 have i:=aS x (om:0<m)
 exact⟨i64_in om om,b⟩
def lO(A:az)(m:Int):az:=fun i j=>A i j%m
def mr(n k:Nat)(A:az)(m:Int)(L:n<=16)(M:k<=16)(E:1<=m)(p:m<=2147483647):QM 225 [av n k A,ι m] n k (lO A m):=by
 refine QM.of ?_;refine jg func225 ntmps225 results225 ?_;have q:¬(m=0):=om
 simp -dsimp only[go_sem,aK,av]
 repeat refine an ?_
 refine ax.intro fun bc fc=>?_;simp only[go_sem];refine aC (fun O S'=>∃i:Nat,i<=n/\O 1=ι m/\O 5=ϑ bc 0 n/\O 13=av n k A/\O 14=ι n/\O 15=ι i/\∃g',fv 29 2 1 St.none S' bc g' n k i (fun a j=>ι (lO A m a j))) (fun O S=>n-bO (O 15)) ?_ ?_
 .simp only[go_sem,aK,av];exact⟨0,om,rfl,fun _=>0,fv.init fc (fun _ _=>rfl) _ _⟩
 .rintro O S' ⟨i,N,r,s,d,f,g,g',b⟩;by_cases l:i<n
  .obtain⟨B,o,t⟩:=id b.outer;simp -dsimp only[*,go_sem,aa,av,aK]
   repeat refine an ?_
   refine ax.intro fun bd fd=>?_;have F:bc≠bd:=aY.fresh b.outer fd;simp only[*,go_sem];have h:=b.push dc fd o (fun _=>ι 0)
   generalize u:(fun a=>if a=i then bd else g' a)=gg at h
   refine aC (fun O S'=>∃j:Nat,j<=k/\O 1=ι m/\O 5=ϑ bc 0 n/\O 6=ι i/\O 13=av n k A/\O 14=ι n/\O 15=ι i/\O 26=aK k (A i)/\O 27=ι k/\O 28=ι j/\fv 29 2 1 St.none S' bc gg n k (i+1) (fun a c=>ι (if a=i/\j<=c then 0 else lO A m a c))) (fun O S=>k-bO (O 28)) ?_ ?_
   .simp only[*,go_sem,av,aK];refine⟨0,om,rfl,h.congr fun a c _ _=>?_⟩
    by_cases e:a=i
    .simp[e]
    .simp[e]
   .clear r s d f g b h o t u;rintro O S' ⟨j,P,r,s,G,d,f,g,v,w,y,b⟩;by_cases z:j<k
    .obtain⟨B,o,t⟩:=id b.outer;obtain⟨Q,C,R⟩:=id (b.row i om);have H:B i=ϑ (gg i) 0 k:=(t i l).trans (aj om);obtain⟨I,J⟩:=ED (x:=A i j) E p;simp -dsimp only[*,go_sem,av,aK];refine aN 13 kr ?_
     simp only[go_sem,aa,av,aK,r,s,G,d,f,g,v,w,y,l,z,o,H,C,q,I,J,aF (om:j<1000000),bO]
     refine⟨⟨j+1,om,rfl,(b.put dc (om:i<i+1) C j (ι (lO A m i j))).congr fun a c _ _=>?_⟩,om⟩
     by_cases e:a=i/\c=j
     .obtain⟨rfl,rfl⟩:=e;rw[aj ⟨rfl,rfl⟩,ah om]
     .rw[ah e];congr 1;by_cases D:a=i/\j<=c
      .rw[aj D,aj om]
      .rw[ah D,ah om]
    .simp only[*,go_sem,av,aK,aF (om:i<1000000),bO]
     exact⟨⟨i+1,om,rfl,gg,b.congr fun a c _ T=>by rw[ah om]⟩,om⟩
  .obtain rfl:i=n:=om
   have K:=b.imat (A:=lO A m) (fun _ _ _ _=>rfl);simp only[*,go_sem,aa,av,aK];exact⟨bc,rfl,g',K.1⟩
def FY(f:Nat)(args:List AV)(n m:Nat)(A:Nat->Nat->Int):Prop:=∀S args',eM S args' args->cI f args' S (fun r S'=>∃b g,r=.tup [ϑ b 0 n,ι 0]/\gZ S S' b g n m A)
def FY.of{A:Nat->Nat->Int}(h:cI f args St.none (fun r S'=>∃b g,r=.tup [ϑ b 0 n,ι 0]/\eg S' b g n m A)):FY f args n m A:=fun S args' c=>by
 have d:cI f args St.none (fun r S'=>∃b g,r=.tup [ϑ b 0 n,ι 0]/\eg S' b g n m A/\Gl S'):=h.less fun r S' ⟨b,g,e,a⟩=>⟨eN S' b g n,iT S' b g n,b,g,e,a.only.1,a.only.2⟩;refine(d.frame c ?_).mono ?_
 .rintro r S1 ⟨b,g,rfl,_,i⟩;exact⟨rfl,i⟩
 .rintro r S' ⟨S1,⟨b,g,rfl,a,_⟩,j,rfl⟩;exact⟨b,g,rfl,a.join j⟩
def yg(n k:Nat)(A:az)(m:Int)(e:1<=n)(c:n<=16)(f:1<=k)(d:k<=16)(h:2<=m)(a:m<=2147483647):FY 176 [av n k A,ι m] n k (lO A m):=by
 refine FY.of ?_;refine jg func176 ntmps176 results176 ?_;simp -dsimp only[go_sem,aa];refine(tL n k A e c f d).call ?_;simp -dsimp only[go_sem,aa];refine(k8 m h a).call ?_;simp -dsimp only[go_sem,aa];refine(mr n k A m c d om a _ _ (cD _ _)).mono ?_;rintro _ S' ⟨b,g,rfl,i⟩;simp only[go_sem];exact⟨b,rfl,g,i.1⟩
def kP(A B:az)(K:Nat)(m:Int):az:=fun i j=>(ap K fun t=>A i t*B t j)%m
def GH(n K l:Nat)(A B:az)(m:Int)(hn:n<=16)(hK:1<=K)(M:K<=16)(hl:l<=16)(hm:1<=m)(N:m<=2147483647)(P:∀i j,i<n->j<K->0<=A i j/\A i j<m)(Q:∀i j,i<K->j<l->0<=B i j/\B i j<m):QM 231 [av n K A,av K l B,ι m] n l (kP A B K m):=by
 refine QM.of ?_;refine jg func231 ntmps231 results231 ?_;have y:¬(m=0):=om
 have R:0<K:=om
 have T:(0:Int)<(K:Int):=om
 simp -dsimp only[go_sem,aK,av]
 repeat refine an ?_
 refine ax.intro fun bc fc=>?_;simp only[go_sem];refine aC (fun O S'=>∃i:Nat,i<=n/\O 1=av K l B/\O 2=ι m/\O 7=ϑ bc 0 n/\O 17=av n K A/\O 18=ι n/\O 19=ι i/\∃g',fv 29 2 1 St.none S' bc g' n l i (fun a j=>ι (kP A B K m a j))) (fun O S=>n-bO (O 19)) ?_ ?_
 .simp only[go_sem,aK,av];exact⟨0,om,rfl,fun _=>0,fv.init fc (fun _ _=>rfl) _ _⟩
 .rintro O S' ⟨i,hi,u,h,v,d,f,g,g',b⟩;by_cases o:i<n
  .obtain⟨I,x,z⟩:=id b.outer;simp -dsimp only[*,go_sem,aa,av,aK]
   repeat refine an ?_
   refine ax.intro fun bd fd=>?_;have U:bc≠bd:=aY.fresh b.outer fd;simp only[*,go_sem];have p:=b.push dc fd x (fun _=>ι 0)
   generalize C:(fun a=>if a=i then bd else g' a)=gg at p
   refine aC (fun O S'=>∃k:Nat,k<=K/\O 1=av K l B/\O 2=ι m/\O 7=ϑ bc 0 n/\O 8=ι i/\O 17=av n K A/\O 18=ι n/\O 19=ι i/\O 32=aK K (A i)/\O 33=ι K/\O 34=ι k/\fv 29 2 1 St.none S' bc gg n l (i+1) (fun a c=>ι (if a=i then kP A B k m i c else kP A B K m a c))) (fun O S=>K-bO (O 34)) ?_ ?_
   .simp only[*,go_sem,av,aK];refine⟨0,om,rfl,p.congr fun a c _ _=>?_⟩
    by_cases e:a=i
    .simp[e,kP,ap]
    .simp[e]
   .clear u h v d f g b p x z C;rintro O S' ⟨k,hk,u,h,v,D,d,f,g,q,r,s,b⟩;by_cases w:k<K
    .simp only[*,go_sem,av,aK];refine aC (fun O S'=>∃j:Nat,j<=l/\O 1=av K l B/\O 2=ι m/\O 7=ϑ bc 0 n/\O 8=ι i/\O 11=ι (A i k)/\O 17=av n K A/\O 18=ι n/\O 19=ι i/\O 32=aK K (A i)/\O 33=ι K/\O 34=ι k/\O 42=aK l (B k)/\O 43=ι l/\O 44=ι j/\fv 29 2 1 St.none S' bc gg n l (i+1) (fun a c=>ι (if a=i then(if c<j then kP A B (k+1) m i c else kP A B k m i c)else kP A B K m a c))) (fun O S=>l-bO (O 44)) ?_ ?_
     .simp only[*,go_sem,av,aK];exact⟨0,om,rfl,b.congr fun a c _ _=>by simp⟩
     .clear u h v D d f g q r s b;rintro O S' ⟨j,hj,u,h,v,D,E,d,f,g,q,r,s,F,G,H,b⟩;by_cases t:j<l
      .obtain⟨I,x,z⟩:=id b.outer;obtain⟨V,J,W⟩:=id (b.row i om);have X:I i=ϑ (gg i) 0 l:=(z i o).trans (aj om);have Y:V j=ι (kP A B k m i j):=(W j t).trans sm
       have b1:=P i k o w;have b2:=Q k j w t;have b3:0<=kP A B k m i j/\kP A B k m i j<m:=⟨aW _ om,aS _ om⟩;have b4:=oG (A:=2147483646) (B:=2147483646) (om:0<=A i k/\A i k<=2147483646) (om:0<=B k j/\B k j<=2147483646)
       have Z:ω (A i k*B k j)=A i k*B k j:=i64_in om om;have q2:ω (kP A B k m i j+A i k*B k j)=kP A B k m i j+A i k*B k j:=i64_in om om;have q3:et (kP A B k m i j+A i k*B k j) m=kP A B (k+1) m i j:=by
        rw[aJ om];simp only[kP,ap];rw[Int.emod_add_emod]
       simp -dsimp only[*,go_sem,av,aK];refine aN 19 kr ?_
       simp only[go_sem,aa,av,aK,u,h,v,D,E,d,f,g,q,r,s,F,G,H,o,t,x,X,J,Y,y,Z,q2,q3,aF (om:j<1000000),bO]
       refine⟨⟨j+1,om,rfl,(b.put dc (om:i<i+1) J j (ι (kP A B (k+1) m i j))).congr fun a c _ _=>?_⟩,om⟩
       by_cases e:a=i/\c=j
       .obtain⟨rfl,rfl⟩:=e;simp
       .rw[ah e];congr 1;by_cases h:a=i
        .rw[aj h,aj h];by_cases L:c<j
         .rw[aj L,aj om]
         .rw[ah L,ah om]
        .rw[ah h,ah h]
      .simp only[*,go_sem,av,aK,aF (om:k<1000000),bO]
       exact⟨⟨k+1,om,rfl,b.congr fun a c _ hc=>by rw[aj (om:c<j)]⟩,om⟩
    .obtain rfl:k=K:=om
     simp only[*,go_sem,av,aK,aF (om:i<1000000),bO]
     exact⟨⟨i+1,om,rfl,gg,b.congr fun a c _ hc=>by by_cases e:a=i<;>simp[e]⟩,om⟩
  .obtain rfl:i=n:=om
   have hN:=b.imat (A:=kP A B K m) (fun _ _ _ _=>rfl);simp only[*,go_sem,aa,av,aK];exact⟨bc,rfl,g',hN.1⟩

def VA.ptr(e:cS S b ty es x)(f:VA S x x'):VA S (.ptr es b 0) (.pat es x'):=by
 intro w v a c;obtain⟨g',g,h⟩:=e;obtain⟨cs,d,m,i,n⟩:=a b _ g;simp only[bI]at c ⊢;subst c;obtain⟨u,j,k⟩:=i 0 (by simp only;omega)
 refine⟨b,es*0,u,rfl,fN d,fun l=>l,⟨cs,ty,(0,0),d,j⟩,f w u a ?_⟩;rw[<-h];exact k
def VA.fn(h:eM S l l'):VA S (.fn f l) (.fn f l'):=by
 intro w v b a;simp only[bI]at a ⊢;obtain⟨vs,rfl,c⟩:=a;exact⟨vs,rfl,yV b _ _ _ h c⟩
def ld(n m:Nat)(A:az)(g:1<=n)(h:n<=16)(j:1<=m)(k:m<=16):PF 97 [aP n m A] (.tup [ι n,ι m,.bool true]):=by
 refine iy func97 ntmps97 results97 ?_;have b:0<n:=om
 have a:(0:Int)<(n:Int):=om
 simp only[go_sem,bn,aP,a,(om:¬((n:Int)<1)),(om:¬((16:Int)<(n:Int))),(om:¬((m:Int)<1)),(om:¬((16:Int)<(m:Int)))]
 refine aC (fun O S=>∃i:Nat,i<=n/\O 0=aP n m A/\O 5=ι m/\O 26=aP n m A/\O 27=ι n/\O 28=ι i) (fun O S=>n-bO (O 28)) ?_ ?_
 .simp only[go_sem,bn,aP];exact⟨0,om,rfl⟩
 .rintro O S ⟨i,l,o,p,c,d,e⟩;by_cases f:i<n
  .simp only[*,go_sem,bn,aP,show((m:Int) != m)=false by simp,aF (om:i<1000000),bO]
   exact⟨⟨i+1,om,rfl⟩,om⟩
  .simp only[*,go_sem,bn,aP];exact VR.tup (by simp[rm])
def EP(n m:Nat)(A:az)(g:1<=n)(h:n<=16)(j:1<=m)(k:m<=16):PF 154 [av n m A] (.tup [ι n,ι m,.bool true]):=by
 refine iy func154 ntmps154 results154 ?_;have b:0<n:=om
 have a:(0:Int)<(n:Int):=om
 simp only[go_sem,aK,av,a,(om:¬((n:Int)<1)),(om:¬((16:Int)<(n:Int))),(om:¬((m:Int)<1)),(om:¬((16:Int)<(m:Int)))]
 refine aC (fun O S=>∃i:Nat,i<=n/\O 0=av n m A/\O 5=ι m/\O 26=av n m A/\O 27=ι n/\O 28=ι i) (fun O S=>n-bO (O 28)) ?_ ?_
 .simp only[go_sem,aK,av];exact⟨0,om,rfl⟩
 .rintro O S ⟨i,l,o,p,c,d,e⟩;by_cases f:i<n
  .simp only[*,go_sem,aK,av,show((m:Int) != m)=false by simp,aF (om:i<1000000),bO]
   exact⟨⟨i+1,om,rfl⟩,om⟩
  .simp only[*,go_sem,aK,av];exact VR.tup (by simp[rm])
def rC(n m F:Nat)(l:List AV)(A:az)(G:11<=F/\F<252)(H:n<=16)(I:m<=16)(z:∀i j:Nat,i<n->j<m->PF F ([ι i,ι j]++l) (ϱ (A i j))):MF 131 [ι n,ι m,.fn F l] n m A:=by
 refine MF.of ?_;refine jg func131 ntmps131 results131 ?_;simp -dsimp only[go_sem]
 repeat refine an ?_
 refine ax.intro fun bc fc=>?_;simp only[go_sem];refine aC (fun O S'=>∃i:Nat,i<=n/\O 1=ι m/\O 2=.fn F l/\O 7=ϑ bc 0 n/\O 13=ι n/\O 14=ι i/\∃g',fv 59 50 2 St.none S' bc g' n m i (fun a j=>ϱ (A a j))) (fun O S=>n-bO (O 14)) ?_ ?_
 .simp only[go_sem];exact⟨0,om,rfl,fun _=>0,fv.init fc (fun _ _=>rfl) _ _⟩
 .rintro O S' ⟨i,J,q,k,r,d,f,g',b⟩;by_cases g:i<n
  .obtain⟨s,p,t⟩:=id b.outer;simp -dsimp only[*,go_sem,aa]
   repeat refine an ?_
   refine ax.intro fun bd fd=>?_;have B:bc≠bd:=aY.fresh b.outer fd;have x:aL s i (ϕ bd 0 m) i=ϕ bd 0 m:=by simp[aL]
   simp only[*,go_sem];have h:=b.push dc fd p (fun _=>ϱ 0)
   generalize u:(fun a=>if a=i then bd else g' a)=gg at h
   refine aC (fun O S'=>∃j:Nat,j<=m/\O 1=ι m/\O 2=.fn F l/\O 7=ϑ bc 0 n/\O 8=ι i/\O 13=ι n/\O 14=ι i/\O 26=ι m/\O 27=ι j/\fv 59 50 2 St.none S' bc gg n m (i+1) (fun a c=>ϱ (if a=i/\j<=c then 0 else A a c))) (fun O S=>m-bO (O 27)) ?_ ?_
   .simp only[*,go_sem];refine⟨0,om,rfl,h.congr fun a c _ _=>?_⟩
    by_cases e:a=i
    .simp[e]
    .simp[e]
   .clear q k r d f b h p t u;rintro O S' ⟨j,K,q,k,r,C,d,f,v,w,b⟩;by_cases o:j<m
    .obtain⟨s,p,t⟩:=id b.outer;obtain⟨L,y,M⟩:=id (b.row i om);have D:s i=ϕ (gg i) 0 m:=(t i g).trans (aj om);simp -dsimp only[*,go_sem];refine aN 10 kr ?_
     simp only[go_sem,aa,q,k,r,C,d,f,v,w,g,o,p,D,y,aF (om:j<1000000),bO]
     repeat refine an ?_
     refine⟨_,(z i j g o).pure',trivial,⟨j+1,om,rfl,(b.put dc (om:i<i+1) y j (ϱ (A i j))).congr fun a c _ _=>?_⟩,om⟩
     by_cases e:a=i/\c=j
     .obtain⟨rfl,rfl⟩:=e;rw[aj ⟨rfl,rfl⟩,ah om]
     .rw[ah e];congr 1;by_cases k:a=i/\j<=c
      .rw[aj k,aj om]
      .rw[ah k,ah om]
    .simp only[*,go_sem,aF (om:i<1000000),bO]
     exact⟨⟨i+1,om,rfl,gg,b.congr fun a c _ N=>by rw[ah om]⟩,om⟩
  .obtain rfl:i=n:=om
   have E:=b.mat (A:=A) (fun _ _ _ _=>rfl);simp only[*,go_sem,aa];exact⟨bc,rfl,g',E.1⟩
def El(n m:Nat)(A:az)(i j:Nat)(b:i<n)(c:j<m)(a:-9223372036854775808<=A i j/\A i j<=9223372036854775807):PF 155 [ι i,ι j,.pat 1 (av n m A)] (ϱ (A i j)):=by
 refine iy func155 ntmps155 results155 ?_;simp -dsimp only[go_sem];refine ax.intro fun bc fc=>?_
 try simp -dsimp only[*,go_sem,av,aK]
 refine(fS a.1 a.2).call ?_;simp only[go_sem,aa];exact VR.mf rfl
def Oj(n m k:Nat)(A:az)(i j:Nat)(b:i<n)(c:j<m)(a:nb (A i j) k)(d:k<=1000000000):PF 212 [ι i,ι j,.pat 1 (aP n m A)] (ϱ (-A i j)):=by
 refine iy func212 ntmps212 results212 ?_;simp -dsimp only[go_sem];refine ax.intro fun bc fc=>?_
 try simp -dsimp only[*,go_sem,aP,bn]
 refine(td a om).call ?_;simp only[go_sem,aa];exact VR.mf rfl
def GC(k:Nat)(z:Int)(i j:Nat)(a:nb z k)(b:k<=1000000000):PF 238 [ι i,ι j,.pat 2 (ϱ z)] (ϱ (if i=j then z else 0)):=by
 refine iy func238 ntmps238 results238 ?_;simp -dsimp only[go_sem];refine ax.intro fun bc fc=>?_;by_cases e:i=j
 .subst e
  try simp -dsimp only[go_sem,show((i:Int)==i)=true by simp]
  refine(sd a om).call ?_;simp only[go_sem,aa];exact VR.mf rfl
 .try simp only[go_sem,e,show((i:Int)==j)=false by simp;omega]
  exact VR.mf rfl
def eM.fn1{a b:AV}(h:eM S l l'):eM S [a,b,.fn f l] [a,b,.fn f l']:=⟨VA.refl _ _,VA.refl _ _,VA.fn h,trivial⟩
def eM.one(h:VA S x x'):eM S [x] [x']:=⟨h,trivial⟩
def eM.three{z z':AV}(h:VA S x x')(a:VA S y y')(b:VA S z z'):eM S [x,y,z] [x',y',z']:=⟨h,a,b,trivial⟩
def dL{g:Nat->AV}:aL g i x i=x:=by simp[aL]
def pj(n m:Nat)(A:az)(f:1<=n)(a:n<=16)(h:1<=m)(c:m<=16)(k:∀i j,i<n->j<m->-9223372036854775808<=A i j/\A i j<=9223372036854775807):CF 93 [av n m A] n m A:=by
 refine CF.of ?_;refine jg func93 ntmps93 results93 ?_;simp -dsimp only[go_sem,aa,av,aK];refine ax.intro fun bc fc=>?_
 try simp -dsimp only[go_sem]
 refine(EP n m A f a h c).call ?_;simp -dsimp only[go_sem,aa];refine(rC n m 155 [.pat 1 (av n m A)] A om a c (fun i j d e=>El n m A i j d e (k i j d e)) _ _ (eM.fn1 (eM.one (VA.ptr (cS.new rfl) (VA.refl _ _))))).mono ?_;rintro _ S1 ⟨b,g,rfl,l⟩;simp only[go_sem];exact⟨b,rfl,g,l.1⟩
def B8(n k:Nat)(z:Int)(a:n<=16)(c:nb z k)(d:k<=1000000000):MF 190 [ι n,ϱ z] n n (fun i j=>if i=j then z else 0):=by
 refine MF.of ?_;refine jg func190 ntmps190 results190 ?_;simp -dsimp only[go_sem,aa];refine ax.intro fun bc fc=>?_
 try simp -dsimp only[go_sem]
 refine(rC n n 238 [.pat 2 (ϱ z)] (fun i j=>if i=j then z else 0) om a a (fun i j f h=>GC k z i j c d) _ _ (eM.fn1 (eM.one (VA.ptr (cS.new rfl) (VA.refl _ _))))).mono ?_
 rintro _ S1 ⟨b,g,rfl,e⟩;simp only[go_sem];exact⟨b,rfl,g,e.1⟩
theorem me{f:Nat->Int}{k:Nat}:∀(t:Nat),(∀i,i<t->nb (f i) k)->nb (ap t f) (k+t)
 | 0,_=>nb.zero _
 | t+1,h=>by
  have a:=me t (fun i c=>h i om);have b:=(h t om).mono (om:k<=k+t)
  exact a.add b
def PP(n K l k:Nat)(A B:az)(i j:Nat)(d:i<n)(e:j<l)(s:K<=16)(g:∀i j,i<n->j<K->nb (A i j) k)(h:∀i j,i<K->j<l->nb (B i j) k)(u:k<=1000000):PF 132 [ι i,ι j,.pat 1 (ι K),.pat 1 (aP n K A),.pat 1 (aP K l B)] (ϱ (mm K A B i j)):=by
 refine iy func132 ntmps132 results132 ?_;simp -dsimp only[go_sem];refine ax.intro fun bc fc=>?_
 try simp -dsimp only[go_sem]
 refine ax.intro fun bd fd=>?_;have nd_c:=(af fd).1
 try simp only[go_sem]
 refine aC (fun O S'=>∃t:Nat,t<=K/\O 0=ι i/\O 1=ι j/\O 3=.pat 1 (aP n K A)/\O 4=.pat 1 (aP K l B)/\O 7=ϖ bc 0/\O 8=ϖ bd 0/\O 11=ι K/\O 12=ι t/\cS S' bc 50 2 (ϱ 0)/\cS S' bd 50 2 (ϱ (ap t fun a=>A i a*B a j))) (fun O S=>K-bO (O 12)) ?_ ?_
 .simp only[go_sem];exact⟨0,om,rfl,((cS.new rfl).upd (ai nd_c) _).upd (ai nd_c) _,cS.set⟩
 .rintro O S' ⟨t,v,w,x,y,z,C,D,o,p,c,m⟩;obtain⟨E,F,G⟩:=id c;obtain⟨H,I,J⟩:=id m;by_cases b:t<K
  .simp -dsimp only[*,go_sem,aa];refine aN 17 kr ?_
   simp only[*,go_sem,aa,aP,bn,aF (om:t<1000000),bO]
   have q:=me (f:=fun a=>A i a*B a j) (k:=k+k) t (fun a L=>(g i a d om).mul (h a j om e));have r:=((g i t d b).mul (h t j b e)).mono (om:k+k<=k+k+t)
   exact⟨_,(gL (g i t d b) (h t j b e) om).pure',_,(l6 q r om).pure',trivial,⟨t+1,om,rfl,c.upd (ai nd_c) _,cS.set⟩,om⟩
  .obtain rfl:t=K:=om
   simp only[*,go_sem,aa];simp only[aL,aH];exact VR.mf rfl
def zY(n m k:Nat)(A:az)(p:1<=n)(f:n<=16)(h:m<=16)(l:∀i j,i<n->j<m->nb (A i j) k)(q:k<=1000000):MF 163 [aP n m A] n m (fun i j=>- A i j):=by
 refine MF.of ?_;refine jg func163 ntmps163 results163 ?_;have c:0<n:=om
 have a:(0:Int)<(n:Int):=om
 simp -dsimp only[go_sem,aP,bn];refine ax.intro fun bc fc=>?_
 try simp -dsimp only[go_sem,aP,bn,c,a]
 refine aN 7 kr ?_
 simp -dsimp only[go_sem,aa,a];refine(rC n m 212 [.pat 1 (aP n m A)] (fun i j=>- A i j) om f h (fun i j d e=>Oj n m k A i j d e (l i j d e) om) _ _ (eM.fn1 (eM.one (VA.ptr (cS.new rfl) (VA.refl _ _))))).mono ?_;rintro _ S1 ⟨b,g,rfl,o⟩;simp only[go_sem];exact⟨b,rfl,g,o.1⟩
def oo(n K l k:Nat)(A B:az)(m:1<=n)(e:n<=16)(f:1<=K)(d:K<=16)(o:1<=l)(h:l<=16)(p:∀i j,i<n->j<K->nb (A i j) k)(q:∀i j,i<K->j<l->nb (B i j) k)(r:k<=1000000):CF 80 [aP n K A,aP K l B] n l (mm K A B):=by
 refine CF.of ?_;refine jg func80 ntmps80 results80 ?_;simp -dsimp only[go_sem,aa,aP,bn];refine ax.intro fun bc fc=>?_
 try simp -dsimp only[go_sem,aP,bn]
 refine ax.intro fun bd fd=>?_;have nd_c:=(af fd).1
 try simp -dsimp only[go_sem,ai nd_c]
 refine(ld n K A m e f d).call ?_;simp -dsimp only[go_sem,aa];refine ax.intro fun be fe=>?_;have ne_d:=(af fe).1;have ne_c:=(af (af fe).2).1
 try simp -dsimp only[go_sem,ai ne_d]
 refine(ld K l B f d o h).call ?_;simp -dsimp only[go_sem,aa,show((K:Int) != K)=false by simp,dL]
 have s:bc≠bd:=ai nd_c;have a:bc≠be:=ai ne_c;have c:bd≠be:=ai ne_d;refine(rC n l 132 [.pat 1 (ι K),.pat 1 (aP n K A),.pat 1 (aP K l B)] (mm K A B) om e h (fun i j t u=>PP n K l k A B i j t u d p q r) _ _ (eM.fn1 (eM.three (VA.ptr cS.set (VA.refl _ _)) (VA.ptr ((((cS.new rfl).upd s _).upd a _).upd a _) (VA.refl _ _)) (VA.ptr (((cS.new rfl).upd c _).upd c _) (VA.refl _ _))))).mono ?_;rintro _ S1 ⟨b,g,rfl,v⟩;simp only[go_sem];exact⟨b,rfl,g,v.1⟩

def LF(f:Nat)(args:List AV)(n:Nat)(v:Nat->Int):Prop:=∀S args',eM S args' args->cI f args' S (fun r S'=>∃b,r=ϕ b 0 n/\iY S' b n v/\dh S S'/\S b=ae)
def zT(S:St)(b:Nat):St:=fun k=>if k=b then S k else ae
def LV(S:St)(b:Nat):∀c X,zT S b c=some X->S c=some X:=by
 intro c X h;unfold zT at h;split at h
 .exact h
 .cases h
def iY.only(h:iY S b n v):iY (zT S b) b n v/\Gl (zT S b):=by
 obtain⟨g',d,f⟩:=h;refine⟨⟨g',by simp[zT,d],f⟩,fun c X a j g=>?_⟩
 unfold zT at a;split at a
 .rename_i e;subst e;rw[a]at d;cases d;show uQ (g' j)=true;rw[f j g];rfl
 .cases a
def LF.of(h:cI f args St.none (fun r S'=>∃b,r=ϕ b 0 n/\iY S' b n v)):LF f args n v:=fun S args' d=>by
 have g:cI f args St.none (fun r S'=>∃b,r=ϕ b 0 n/\iY S' b n v/\Gl S'):=h.less fun r S' ⟨b,e,a⟩=>⟨zT S' b,LV S' b,b,e,a.only.1,a.only.2⟩;refine(g.frame d ?_).mono ?_
 .rintro r S1 ⟨b,rfl,_,i⟩;exact⟨rfl,i⟩
 .rintro r S' ⟨S1,⟨b,rfl,a,_⟩,c,rfl⟩;exact⟨b,rfl,(aY.join c a).1,od S S1,(aY.join c a).2⟩
def og(n m k i j:Nat)(A:az)(a b:Int)(o:i<n)(p:j<n)(D:m<=100)(h:∀c r,c<n->r<m->nb (A c r) k)(q:nb a k)(s:nb b k)(E:k<=1000000) :
  LF 269 [aP n m A,ι i,ϱ a,ι j,ϱ b] m (fun r=>a*A i r+b*A j r):=by
 refine LF.of ?_;refine jg func269 ntmps269 results269 ?_;simp -dsimp only[go_sem,aP,bn];refine ax.intro fun bc fc=>?_
 try simp -dsimp only[go_sem,aP,bn]
 refine ax.intro fun bd fd=>?_;have nd_c:=(af fd).1;simp -dsimp only[go_sem,o]
 repeat refine an ?_
 refine ax.intro fun be fe=>?_;have ne_d:=(af fe).1;have ne_c:=(af (af fe).2).1;simp only[go_sem];refine aC (fun O S'=>∃t:Nat,t<=m/\O 0=aP n m A/\O 1=ι i/\O 3=ι j/\O 7=ϖ bc 0/\O 9=ϖ bd 0/\O 11=ϕ be 0 m/\O 20=ι m/\O 21=ι t/\cS S' bc 50 2 (ϱ a)/\cS S' bd 50 2 (ϱ b)/\iY S' be m (fun r=>if r<t then a*A i r+b*A j r else 0)) (fun O S=>m-bO (O 21)) ?_ ?_
 .simp only[go_sem,aP,bn];exact⟨0,om,rfl,((cS.new rfl).upd (ai nd_c) _).upd (ai ne_c) _,(cS.new rfl).upd (ai ne_d) _,aY.here fun r l=>by simp⟩
 .rintro O S' ⟨t,F,G,H,I,J,K,w,x,y,f,g,u⟩;obtain⟨L,M,N⟩:=id f;obtain⟨P,Q,R⟩:=id g;obtain⟨T,U,z⟩:=id u;by_cases d:t<m
  .simp -dsimp only[*,go_sem];refine aN 22 kr ?_
   simp only[*,go_sem,aa,aP,bn,aF (om:t<1000000),bO]
   have B:=q.mul (h i t o d);have C:=s.mul (h j t p d);exact⟨_,(gL q (h i t o d) om).pure',_,(gL s (h j t p d) om).pure',_,(l6 B C om).pure',trivial,⟨t+1,om,rfl,f.upd (ai ne_c) _,g.upd (ai ne_d) _,aY.here fun r l=>by
    simp only[aL];by_cases e:r=t
    .subst e;simp
    .rw[ah e,z r l];by_cases v:r<t
     .simp[v,(om:r<t+1)]
     .simp[v,(om:¬r<t+1)]⟩,om⟩
  .obtain rfl:t=m:=om
   simp only[*,go_sem];exact⟨be,rfl,u.congr fun r l=>by simp[l]⟩
def uP(n m:Nat)(A:az)(F:1<=n)(G:n<=16)(H:m<=16):MF 258 [aP n m A] m n (fun j i=>A i j):=by
 refine MF.of ?_;refine jg func258 ntmps258 results258 ?_;have z:0<n:=om
 have l:(0:Int)<(n:Int):=om
 simp -dsimp only[go_sem,aP,bn,l]
 repeat refine an ?_
 refine ax.intro fun bc fc=>?_;simp only[go_sem];refine aC (fun O S'=>∃j:Nat,j<=m/\O 0=aP n m A/\O 3=ϑ bc 0 m/\O 13=ι m/\O 14=ι j/\∃g',fv 59 50 2 St.none S' bc g' m n j (fun a i=>ϱ (A i a))) (fun O S=>m-bO (O 14)) ?_ ?_
 .simp only[go_sem,aP,bn];exact⟨0,om,rfl,fun _=>0,fv.init fc (fun _ _=>rfl) _ _⟩
 .rintro O S' ⟨j,I,o,p,d,f,g',b⟩;by_cases h:j<m
  .obtain⟨w,k,q⟩:=id b.outer;simp -dsimp only[*,go_sem,aa,aP,bn]
   repeat refine an ?_
   refine ax.intro fun bd fd=>?_;have B:bc≠bd:=aY.fresh b.outer fd;simp only[*,go_sem];have g:=b.push dc fd k (fun _=>ϱ 0)
   generalize r:(fun a=>if a=j then bd else g' a)=gg at g
   refine aC (fun O S'=>∃i:Nat,i<=n/\O 0=aP n m A/\O 3=ϑ bc 0 m/\O 4=ι j/\O 13=ι m/\O 14=ι j/\O 23=aP n m A/\O 24=ι n/\O 25=ι i/\fv 59 50 2 St.none S' bc gg m n (j+1) (fun a c=>ϱ (if a=j/\i<=c then 0 else A c a))) (fun O S=>n-bO (O 25)) ?_ ?_
   .simp only[*,go_sem,aP,bn];refine⟨0,om,rfl,g.congr fun a c _ _=>?_⟩
    by_cases e:a=j
    .simp[e]
    .simp[e]
   .clear o p d f b g k q r;rintro O S' ⟨i,J,o,p,C,d,f,s,t,u,b⟩;by_cases v:i<n
    .obtain⟨w,k,q⟩:=id b.outer;obtain⟨K,x,L⟩:=id (b.row j om);have D:w j=ϕ (gg j) 0 n:=(q j h).trans (aj om);simp -dsimp only[*,go_sem,aP,bn];refine aN 10 kr ?_
     simp only[go_sem,aa,o,p,C,d,f,s,t,u,h,v,k,D,x,aP,bn,aF (om:i<1000000),bO]
     refine⟨⟨i+1,om,rfl,(b.put dc (om:j<j+1) x i (ϱ (A i j))).congr fun a c _ _=>?_⟩,om⟩
     by_cases e:a=j/\c=i
     .obtain⟨rfl,rfl⟩:=e;rw[aj ⟨rfl,rfl⟩,ah om]
     .rw[ah e];congr 1;by_cases y:a=j/\i<=c
      .rw[aj y,aj om]
      .rw[ah y,ah om]
    .simp only[*,go_sem,aa,aF (om:j<1000000),bO]
     exact⟨⟨j+1,om,rfl,rfl,gg,b.congr fun a c _ M=>by rw[ah om]⟩,om⟩
  .obtain rfl:j=m:=om
   have E:=b.mat (A:=fun j i=>A i j) (fun _ _ _ _=>rfl);simp only[*,go_sem,aa];exact⟨bc,rfl,g',E.1⟩

def I4{B:Nat}(h:z.natAbs<=B)(a:B<2^k):nb z k:=dG h a
def Dn{z:Nat}(h:z<2^k):nb (z:Int) k:=by unfold nb;simpa using h
def cS.at_hit{g:Nat->AV}{z:AV}:cS (S.upd b ⟨ty,es,1,g⟩) b ty es z=(g 0=z) :=
 propext ⟨fun⟨g',a,c⟩=>by rw[bW]at a;cases a;exact c,fun h=>⟨g,bW,h⟩⟩
def cS.at_miss{c:Nat}{z:AV}(h:b≠c):cS (S.upd c X) b ty es z=cS S b ty es z:=by
 unfold cS;rw[aE h]
def Hd(x y:Nat):(x:Int)/(y:Int)=((x/y:Nat):Int)/\(x:Int)%(y:Int)=((x%y:Nat):Int):=⟨sm,sm⟩
def RE:St->AV->Nat
 | S,.ptr _ b _=>(match S b with
  | some X=>(match X.g 0 with
   | .big z=>z.toNat
   | _=>0)
  | _=>0)
 | _,_=>0
def FK(h:cS S b 50 2 (ϱ z)):RE S (ϖ b 0)=z.toNat:=by
 obtain⟨g,a,c⟩:=h;simp only[RE,a,c]
def BzS(S:St)(b2 b3 b4 b5 b6 b7 b8:Nat)(x y a b na nb':Int):Prop :=
 cS S b2 50 2 (ϱ x)/\cS S b3 50 2 (ϱ y)/\cS S b4 50 2 (ϱ 0)/\cS S b5 50 2 (ϱ a)/\cS S b6 50 2 (ϱ b)/\cS S b7 50 2 (ϱ na)/\cS S b8 50 2 (ϱ nb')
def Kx(d e k:Nat)(t:1<=k)(u:k<=1000000)(G:d<2^k)(H:e<2^k)(v:0<d∨0<e) :
  PF 268 [ϱ d,ϱ e] (.tup [ϱ (bz d e).1,ϱ (bz d e).2.1,ϱ (bz d e).2.2]):=by
 refine iy func268 ntmps268 results268 ?_;have h2k:1<2^k:=Nat.one_lt_two_pow om;have one_pf:PF 81 [ι 1] (ϱ 1):=fS dc dc
 simp -dsimp only[go_sem];refine ax.intro fun bc fc=>?_
 try simp -dsimp only[go_sem]
 refine ax.intro fun bd fd=>?_;have nd_c:=(af fd).1
 try simp -dsimp only[go_sem]
 refine ax.intro fun be fe=>?_;have ne_d:=(af fe).1;have ne_c:=(af (af fe).2).1
 try simp -dsimp only[go_sem]
 refine ax.intro fun bf ff=>?_;have nf_e:=(af ff).1;have nf_d:=(af (af ff).2).1;have nf_c:=(af (af (af ff).2).2).1
 try simp -dsimp only[go_sem]
 refine ax.intro fun bg fg=>?_;have ng_f:=(af fg).1;have ng_e:=(af (af fg).2).1;have ng_d:=(af (af (af fg).2).2).1;have ng_c:=(af (af (af (af fg).2).2).2).1
 try simp -dsimp only[go_sem]
 refine one_pf.call ?_;simp -dsimp only[go_sem,aa,nn ng_f];refine one_pf.call ?_;simp -dsimp only[go_sem];refine ax.intro fun bh fh=>?_;have nh_g:=(af fh).1;have nh_f:=(af (af fh).2).1;have nh_g:=(af (af (af fh).2).2).1;have nh_f:=(af (af (af (af fh).2).2).2).1;have nh_e:=(af (af (af (af (af fh).2).2).2).2).1;have nh_d:=(af (af (af (af (af (af fh).2).2).2).2).2).1;have nh_c:=(af (af (af (af (af (af (af fh).2).2).2).2).2).2).1;simp -dsimp only[go_sem];refine ax.intro fun bi fi=>?_;have ni_h:=(af fi).1;have ni_g:=(af (af fi).2).1;have ni_f:=(af (af (af fi).2).2).1;have ni_g:=(af (af (af (af fi).2).2).2).1;have ni_f:=(af (af (af (af (af fi).2).2).2).2).1;have ni_e:=(af (af (af (af (af (af fi).2).2).2).2).2).1;have ni_d:=(af (af (af (af (af (af (af fi).2).2).2).2).2).2).1;have ni_c:=(af (af (af (af (af (af (af (af fi).2).2).2).2).2).2).2).1;simp only[go_sem,aa,nn ni_h];refine aC (fun O S'=>∃(x y:Nat) (a b na nb':Int),K8 d e x y a b na nb'/\O 2=ϖ bc 0/\O 3=ϖ bd 0/\O 4=ϖ be 0/\O 5=ϖ bf 0/\O 6=ϖ bg 0/\O 7=ϖ bh 0/\O 8=ϖ bi 0/\BzS S' bc bd be bf bg bh bi x y a b na nb') (fun O S=>RE S (O 3)) ?_ ?_
 .simp only[go_sem];refine⟨d,e,1,0,0,1,K8.init v,?_⟩;simp only[BzS,cS.at_hit,cS.at_miss,yL,ia,aL,aH,SE,ai nd_c,ai ne_c,ai ne_d,ai nf_c,ai nf_d,ai nf_e,ai ng_c,ai ng_d,ai ng_e,ai ng_f,ai nh_c,ai nh_d,ai nh_e,ai nh_f,ai nh_g,ai ni_c,ai ni_d,ai ni_e,ai ni_f,ai ni_g,ai ni_h]
 .rintro O S' ⟨x,y,a,b,na,nbb,f,I,J,K,L,M,N,P,c⟩;obtain⟨⟨Q,R,U⟩,⟨V,W,X⟩,⟨Y,Z,v4⟩,⟨g5,u5,v5⟩,⟨g6,u6,v6⟩,⟨g7,u7,v7⟩,⟨g8,u8,v8⟩⟩:=id c;by_cases g:y=0
  .subst g;simp -dsimp only[*,go_sem,aa];refine(ka (nb.zero 1) om).call ?_;simp -dsimp only[*,go_sem,aa,show(Int.sign 0 != 0)=false from rfl];refine eO 3 [[1,2]] kr ?_
   simp only[*,go_sem,aa,ai nf_e,ai ng_e,ai ng_f];simp only[aL,aH];rw[f.fin];exact⟨trivial,trivial,trivial,VR.tup (l:=[ϱ x,ϱ a,ϱ b]) (by simp[rm])⟩
  .have hs:((y:Int).sign != 0)=true:=by simp;omega
   have lx:x<2^k/\y<2^k:=by
    have h1:=f.lx;have h2:=f.ly;omega
   have m:nb a k:=I4 f.la om;have i:nb na k:=I4 f.lna om;have n:nb b k:=I4 f.lb om;have j:nb nbb k:=I4 f.lnb om;have nq:nb ((x/y:Nat):Int) k:=Dn (dG (gG x y) lx.1);have p:=Hd x y;simp -dsimp only[*,go_sem,aa];refine(ka (Dn lx.2) om).call ?_;simp -dsimp only[*,go_sem,aa];refine(ft (Dn lx.1) (Dn lx.2) om om).call ?_;rw[p.1,p.2];simp -dsimp only[*,go_sem];refine ax.intro fun bj fj=>?_;have w:bc≠bj/\bd≠bj/\be≠bj/\bf≠bj/\bg≠bj/\bh≠bj/\bi≠bj:=⟨cS.fresh c.1 fj,cS.fresh c.2.1 fj,cS.fresh c.2.2.1 fj,cS.fresh c.2.2.2.1 fj,cS.fresh c.2.2.2.2.1 fj,cS.fresh c.2.2.2.2.2.1 fj,cS.fresh c.2.2.2.2.2.2 fj⟩;obtain⟨q,r,z,A,j5,B,j7⟩:=w;simp -dsimp only[go_sem];refine ax.intro fun bk fk=>?_;have nk_j:=(af fk).1;have h:=(af fk).2;have o:bc≠bk/\bd≠bk/\be≠bk/\bf≠bk/\bg≠bk/\bh≠bk/\bi≠bk:=⟨cS.fresh c.1 h,cS.fresh c.2.1 h,cS.fresh c.2.2.1 h,cS.fresh c.2.2.2.1 h,cS.fresh c.2.2.2.2.1 h,cS.fresh c.2.2.2.2.2.1 h,cS.fresh c.2.2.2.2.2.2 h⟩;obtain⟨C,D,E,k4,k5,k6,k7⟩:=o;simp -dsimp only[go_sem,aa,nn nk_j];refine eO 2 [[1]] kr ?_
   simp -dsimp only[*,go_sem,aa,dL,ai C,ai D];refine aN 6 kr ?_
   simp -dsimp only[*,go_sem,aa,ai nk_j,dL,ai q,ai r];refine⟨_,(gL nq i om).pure',_,(mG (m.mono (om:k<=k+k)) (nq.mul i) om).pure',trivial,?_⟩
   refine aN 6 kr ?_
   simp only[*,go_sem,aa,ai nh_g,ai nk_j,dL,ai q,ai r,ai A,ai B];refine⟨_,(gL nq j om).pure',_,(mG (n.mono (om:k<=k+k)) (nq.mul j) om).pure',trivial,?_⟩
   generalize F:(((((((((S'.upd bj _).upd bk _).upd bj _).upd bk _).upd bc _).upd bd _).upd bf _).upd bh _).upd bg _).upd bi _=T;have s:BzS T bc bd be bf bg bh bi (y:Int) ((x%y:Nat):Int) na nbb (a-((x/y:Nat):Int)*na) (b-((x/y:Nat):Int)*nbb):=by
    rw[<-F];simp only[BzS,cS.at_hit,cS.at_miss,yL,ia,aL,aH,SE,ke,Tv,ne_c,ne_d,nh_g,ai nd_c,ai nf_c,ai nf_d,ai nf_e,ai ng_c,ai ng_d,ai ng_e,ai ng_f,ai nh_c,ai nh_d,ai nh_e,ai nh_f,ai ni_c,ai ni_d,ai ni_e,ai ni_f,ai ni_g,ai ni_h,z,E];exact c.2.2.1
   refine⟨⟨y,x%y,na,nbb,_,_,f.step g,s⟩,?_⟩;rw[FK s.2.1,FK c.2.1];have:=di x (gI g);simp only[cR];exact this

def dr.repl(h:dr S b g n m A){j c:Nat}{v:Nat->Int}(p:iY S c m v)(f:∀i,i<n->g i≠c){q:Nat->AV}(u:S b=some ⟨59,1,n,q⟩) :
  dr (S.upd b ⟨59,1,n,aL q j (ϕ c 0 m)⟩) b (fun i=>if i=j then c else g i) n m (fun i r=>if i=j then v r else A i r):=by
 have o:b≠c:=aY.ne h.outer p dc
 refine⟨aY.here fun i a=>?_,fun i a=>?_,fun i k a s d=>?_⟩
 .obtain⟨x,t,w⟩:=h.outer;rw[u]at t;cases t;simp only[aL];by_cases e:i=j
  .simp[e]
  .simp only[e,aI];exact w i a
 .by_cases e:i=j
  .simp only[e,aH];exact p.upd (ai o) _
  .simp only[e,aI];exact(h.row i a).upd (ai (h.outer_ne a)) _
 .by_cases e:i=j
  .by_cases l:k=j
   .omega
   .simp only[e,l,aH,aI]at d;exact absurd d.symm (f k s)
  .by_cases l:k=j
   .simp only[e,l,aH,aI]at d;exact absurd d (f i a)
   .simp only[e,l,aI]at d;exact h.inj i k a s d
structure ni(S S':St)(b:Nat)(g g':Nat->Nat)(n:Nat):Prop where
 keep:∀k X,S k=some X->k≠b->(∀i,i<n->g i≠k)->S' k=some X
 new:∀i,i<n->(∃j,j<n/\g' i=g j)∨S (g' i)=ae
def ni.refl(S:St)(b:Nat)(g:Nat->Nat)(n:Nat):ni S S b g g n:=⟨fun _ _ h _ _=>h,fun i a=>a6 ⟨i,a,rfl⟩⟩
def ni.upd(h:ni S S' b g g' n){c:Nat}(j:c=b∨(∃i,i<n/\g i=c)∨S c=ae)(X:eA):ni S (S'.upd c X) b g g' n:=by
 refine⟨fun k Y a d f=>?_,h.new⟩;have l:k≠c:=by
  rintro rfl;rcases j with e|⟨i,m,e⟩|e
  .exact d e
  .exact f i m e
  .rw[e]at a;cases a
 rw[aE l];exact h.keep k Y a d f
def ni.trans{S2:St}{g1 g2:Nat->Nat}(h:ni S S1 b g g1 n)(k:ni S1 S2 b g1 g2 n)(r:S1 b≠ae):ni S S2 b g g2 n:=by
 refine⟨fun c X m o p=>k.keep c X (h.keep c X m o p) o (fun i f e=>?_),fun i f=>?_⟩
 .rcases h.new i f with⟨j,d,a⟩|a
  .exact p j d (a.symm.trans e)
  .rw[e,m]at a;cases a
 .rcases k.new i f with⟨j,d,e⟩|e
  .rw[e];exact h.new j d
  .by_cases q:∃j,j<n/\g2 i=g j
   .exact a6 q
   .refine aQ ?_
    cases a:S (g2 i)with
    | none=>rfl
    | some X =>
     have s:g2 i≠b:=fun l=>r (l▸e);have:=h.keep (g2 i) X a s (fun j d l=>q ⟨j,d,l.symm⟩);rw[e]at this;cases this
def ni.var(h:ni S S' b g g' n){c ty es:Nat}{z:AV}(a:cS S c ty es z)(d:c≠b)(e:∀i,i<n->g i≠c):cS S' c ty es z:=by
 obtain⟨x,f,j⟩:=a;exact⟨x,h.keep c _ f d e,j⟩
def ni.ne(h:ni S S' b g g' n){c:Nat}{X:eA}(d:S c=some X)(f:∀i,i<n->g i≠c):∀i,i<n->g' i≠c:=by
 intro i k e;rcases h.new i k with⟨j,l,a⟩|a
 .exact f j l (a.symm.trans e)
 .rw[e,d]at a;cases a
def dr.some(h:dr S b g n m A):S b≠ae:=by
 obtain⟨x,a,_⟩:=h.outer;rw[a];simp
structure rS(S:St)(b:Nat)(c:Nat->Nat)(n m:Nat)(A:az):Prop where
 outer:aY S b 59 1 n (fun i=>ϕ (c i) 0 m)
 row:∀i,i<n->iY S (c i) m (A i)
def dr.cols(h:dr S b g n m A):rS S b g n m A:=⟨h.outer,h.row⟩
def rS.ne(h:rS S b c n m A){i:Nat}(a:i<n):b≠c i:=aY.ne h.outer (h.row i a) dc
def rS.vr(h:rS S b c n m A):VR S (ϑ b 0 n) (aP n m A):=VR.sl h.outer om (fun j a=>by rw[aM];exact(h.row j a).vr)
def rS.ext(h:rS S b c n m A)(a:dh S S'):rS S' b c n m A:=⟨a.has h.outer,fun i d=>a.has (h.row i d)⟩
def iX(b:Nat)(S S':St):Prop:=∀k X,S k=some X->k≠b->S' k=some X
def iX.refl(b:Nat)(S:St):iX b S S:=fun _ _ h _=>h
def iX.trans{S'':St}(h:iX b S S')(k:iX b S' S''):iX b S S'':=fun c X d a=>k c X (h c X d a) a
def iX.ext(h:dh S S'):iX b S S':=fun c X a _=>h c X a
def iX.upd(h:iX b S S'){c:Nat}(f:c=b∨S c=ae)(X:eA):iX b S (S'.upd c X):=fun k Y a d=>by
 have:k≠c:=by
  rintro rfl;rcases f with e|e
  .exact d e
  .rw[e]at a;cases a
 rw[aE this];exact h k Y a d
def iX.has(h:iX b S S'){c ty es k:Nat}{z:Nat->AV}(a:aY S c ty es k z)(d:c≠b):aY S' c ty es k z:=by
 obtain⟨x,e,f⟩:=a;exact⟨x,h c _ e d,f⟩
def iX.var(h:iX b S S'){c ty es:Nat}{z:AV}(a:cS S c ty es z)(d:c≠b):cS S' c ty es z:=by
 obtain⟨x,e,f⟩:=a;exact⟨x,h c _ e d,f⟩
def Bs(S:St)(b:Nat)(c:Nat->Nat)(n m p q:Nat)(A:az)(k:p<n)(l:q<n)(d:rS S b c n m A) :
  cI 264 [ϑ b 0 n,ι p,ι q] S (fun _ S'=>(∃c',rS S' b c' n m (fun i=>A (dq p q i)))/\iX b S S'):=by
 refine fC func264 rfl 20 ntmps264 kr sm ?_
 rw[jY,results264];obtain⟨h,o,f⟩:=id d.outer;have r:h p=ϕ (c p) 0 m:=f p k;have s:h q=ϕ (c q) 0 m:=f q l;simp -dsimp only[go_sem];refine fm 13 kr ?_
 simp only[*,go_sem,aa];refine⟨⟨fun i=>c (dq p q i),aY.here fun i j=>?_,fun i j=>?_⟩,((iX.refl b S).upd (a6 rfl) _).upd (a6 rfl) _⟩
 .simp only[aL,dq];by_cases e:i=q
  .subst e;by_cases a:i=p
   .subst a;simp
   .simp[a]
  .by_cases a:i=p
   .subst a;simp[e]
   .simp[e,a,f i j]
 .have g:dq p q i<n:=by unfold dq;split<;>(try split)<;>omega
  exact((d.row _ g).upd (ai (d.ne g)) _).upd (ai (d.ne g)) _
def eM.first(h:VA S x x'):eM S (x::l) (x'::l):=⟨h,cD _ _⟩
structure R9(S0 S:St)(b bd b9:Nat)(c:Nat->Nat)(n m j t:Nat)(A:az)(v:Nat->Int)(d:Int):Prop where
 outer:aY S b 59 1 n (fun a=>ϕ (if a=j then bd else c a) 0 m)
 new:iY S bd m (fun r=>if r<t then v r/d else v r)
 row:∀a,a<n->a≠j->iY S (c a) m (A a)
 var:cS S b9 50 2 (ϱ d)
 keep:iX b S0 S
 h1:S0 bd=ae
 h2:S0 b9=ae
 ne:b9≠bd
 nc:∀a,a<n->c a≠bd
def R9.other{bd:Nat}{d:Int}(h:R9 S0 S b bd b9 c n m j t A v d){e:Nat}(f:S e=ae)(X:eA):R9 S0 (S.upd e X) b bd b9 c n m j t A v d :=
 ⟨h.outer.upd (aY.fresh h.outer f) _,h.new.upd (aY.fresh h.new f) _,fun a g i=>(h.row a g i).upd (aY.fresh (h.row a g i) f) _,h.var.upd (h.var.fresh f) _,fun k Y l o=>by
  have:k≠e:=by rintro rfl;rw[h.keep k Y l o]at f;cases f
  rw[aE this];exact h.keep k Y l o,h.h1,h.h2,h.ne,h.nc⟩
def R9.put{bd:Nat}{d:Int}(h:R9 S0 S b bd b9 c n m j t A v d){g:Nat->AV}(l:S bd=some ⟨50,2,m,g⟩):R9 S0 (S.upd bd ⟨50,2,m,aL g t (ϱ (v t/d))⟩) b bd b9 c n m j (t+1) A v d:=by
 refine⟨h.outer.upd (aY.ne h.outer h.new dc) _,aY.here fun r o=>?_,fun a f p=>(h.row a f p).upd (h.nc a f) _,h.var.upd h.ne _,h.keep.upd (aQ h.h1) _,h.h1,h.h2,h.ne,h.nc⟩
 obtain⟨g',i,q⟩:=h.new;rw[l]at i;cases i;simp only[aL];by_cases e:r=t
 .subst e;simp
 .rw[ah e,q r o];by_cases k:r<t
  .simp[k,(om:r<t+1)]
  .simp[k,(om:¬r<t+1)]
def uI(S0:St)(b:Nat)(c:Nat->Nat)(n m i j row:Nat)(A:az)(d:Int)(u:i<n)(p:j<n)(k:row<m)(U:m<=100)(V:d≠0)(D:nb d KB)(q:∀a r,a<n->r<m->nb (A a r) KB)(L:rS S0 b c n m A) :
  cI 265 [ϑ b 0 n,ι j,ι i,ι row,ϱ d] S0 (fun _ S'=>(∃c',rS S' b c' n m (fun a r=>if a=j then(A i row*A j r-A j row*A i r)/d else A a r))/\iX b S0 S'):=by
 have W:=mR;refine fC func265 rfl 58 ntmps265 kr sm ?_
 rw[jY,results265];simp -dsimp only[go_sem];refine ax.intro fun s B=>?_
 try simp -dsimp only[go_sem]
 have f:rS (S0.upd s ⟨50,2,1,fun _=>ϱ d⟩) b c n m A:=L.ext ((dh.refl S0).upd B _);obtain⟨E,M,w⟩:=id f.outer;obtain⟨g2,X,N⟩:=id (f.row i u);obtain⟨g3,Y,P⟩:=id (f.row j p);have Z:E i=ϕ (c i) 0 m:=w i u;have x2:E j=ϕ (c j) 0 m:=w j p;have x3:=N row k;have x4:=P row k;refine eO 20 [[0,1],[],[]] kr ?_
 simp -dsimp only[*,go_sem,aa];have Q:=q i row u k;have R:=(q j row p k).neg;refine⟨_,(td (q j row p k) om).pure',?_⟩;refine(og n m KB j i A (A i row) (-(A j row)) p u U q Q R om _ _ (eM.first f.vr.va)).mono ?_
 rintro _ S1 ⟨bd,rfl,F,G,y⟩;obtain⟨nd_9,fd⟩:=af y;clear M w X N Y P Z x2 x3 x4;have l:=f.ext G;obtain⟨E,M,w⟩:=id l.outer;obtain⟨g5,u5,v5⟩:=id F;have H:b≠bd:=aY.ne l.outer F dc
 simp only[*,go_sem,aa,dL];generalize T:(fun r=>A i row*A j r+-A j row*A i r)=v at *;have I:∀r,r<m->nb (v r) (KB+KB+1):=fun r k=>by rw[<-T];exact(Q.mul (q j r p k)).add (R.mul (q i r u k))
 refine aC (fun O S'=>∃t:Nat,t<=m/\O 0=ϑ b 0 n/\O 1=ι j/\O 9=ϖ s 0/\O 37=ϕ bd 0 m/\O 38=ι m/\O 39=ι t/\R9 S0 S' b bd s c n m j t A v d) (fun O S=>m-bO (O 39)) ?_ ?_
 .simp only[go_sem];refine⟨0,om,rfl,aY.here fun a o=>?_,(F.congr fun r _=>by simp).upd (ai H) _,fun a o _=>(l.row a o).upd (ai (l.ne o)) _,?_,?_,fd,B,ai nd_9,fun a o=>aY.fresh (f.row a o) y⟩
  .simp only[aL];by_cases e:a=j
   .simp[e]
   .simp only[e,aI];exact w a o
  .have h9:cS S1 s 50 2 (ϱ d):=by
    obtain⟨x,C,k2⟩:=cS.new (S:=S0) (b:=s) (ty:=50) (es:=2) (g:=fun _=>ϱ d) rfl;exact⟨x,G _ _ C,k2⟩
   exact h9.upd (fun e=>by obtain⟨x,C,_⟩:=L.outer;rw[<-e,B]at C;cases C) _
  .exact(iX.ext (((dh.refl S0).upd B _).trans G)).upd (a6 rfl) _
 .rintro O S' ⟨t,ht,e0,e1,e9,e37,e38,J,h⟩;by_cases z:t<m
  .obtain⟨g6,u6,v6⟩:=id h.new;have x6:g6 t=ϱ (v t):=(v6 t z).trans sm
   obtain⟨g7,u7,v7⟩:=id h.outer;obtain⟨g8,u8,x8⟩:=id h.var;have x7:g7 j=ϕ bd 0 m:=(v7 j p).trans sm
   simp -dsimp only[*,go_sem,aa];refine ax.intro fun be fe=>?_;have hbe:b≠be:=aY.fresh h.outer fe;have h9e:s≠be:=h.var.fresh fe;have K:bd≠be:=aY.fresh h.new fe;simp -dsimp only[go_sem,aa,J,x6];refine eO 13 [[10,11]] kr ?_
   simp only[*,go_sem,aa,dL];refine⟨_,(ft (I t z) (D.mono om) om V).pure',?_⟩;simp only[go_sem,aF (om:t<1000000),bO]
   refine⟨⟨t+1,om,rfl,?_⟩,om⟩
   rw[lu];exact(h.other fe _).put (by rw[aE K];exact u6)
  .obtain rfl:t=m:=om
   simp only[*,go_sem];refine⟨⟨fun a=>if a=j then bd else c a,h.outer,fun a o=>?_⟩,h.keep⟩
   by_cases e:a=j
   .simp only[e,aH];refine h.new.congr fun r k=>?_;simp only[k,aH,<-T];rw[show A i row*A j r-A j row*A i r=A i row*A j r+-A j row*A i r by rw[sF];omega]
   .simp only[e,aI];exact h.row a o e
def oB(S0:St)(b:Nat)(g:Nat->Nat)(n m j f:Nat)(A:az)(M:Int)(h:j<n)(T:m<=100)(D:f<=m)(U:0<M)(k:Nat)(o:nb M k)(V:k<=1000000)(E:∀r,r<m->nb (A j r) k)(p:dr S0 b g n m A) :
  cI 266 [ϑ b 0 n,ι j,ι f,ϱ M] S0 (fun _ S'=>dr S' b g n m (fun i r=>if i=j/\f<=r then A i r%M else A i r)/\ni S0 S' b g g n):=by
 refine fC func266 rfl 38 ntmps266 kr sm ?_
 rw[jY,results266];simp only[go_sem];refine ax.intro fun bc fc=>?_
 try simp -dsimp only[go_sem]
 have q:b≠bc:=aY.fresh p.outer fc;have l:∀i,i<n->g i≠bc:=fun i F=>aY.fresh (p.row i F) fc;refine aC (fun O S'=>∃r:Nat,f<=r/\r<=m/\O 0=ϑ b 0 n/\O 1=ι j/\O 7=ϖ bc 0/\O 8=ι r/\dr S' b g n m (fun i c=>if i=j/\f<=c/\c<r then A i c%M else A i c)/\cS S' bc 50 2 (ϱ M)/\ni S0 S' b g g n) (fun O S=>m-bO (O 8)) ?_ ?_
 .simp only[go_sem];exact⟨f,om,D,rfl,(p.upd q l _).congr fun i c _ _=>by rw[ah om],cS.new rfl,(ni.refl S0 b g n).upd (aQ (aQ fc)) _⟩
 .rintro O S' ⟨r,G,H,s,t,I,u,a,v,w⟩;obtain⟨J,x,K⟩:=id a.outer;obtain⟨L,y,N⟩:=id (a.row j h);obtain⟨W,P,Q⟩:=id v;have B:J j=ϕ (g j) 0 m:=K j h;by_cases d:r<m
  .have R:L r=ϱ (A j r):=(N r d).trans (by dsimp only;rw[ah om])
   simp -dsimp only[*,go_sem,aa];refine eO 19 [[17]] kr ?_
   simp only[go_sem,aa,s,t,I,u,x,B,h,d,y,R,P,Q,aF (om:r<1000000),bO]
   refine⟨_,(ft (E r d) o om om).pure',?_⟩;simp only[go_sem];refine⟨⟨r+1,om,om,rfl,(a.set (j:=r) (z:=A j r%M) h y).congr fun i c _ _=>?_,v.upd (ai (l j h)) _,w.upd (aQ (a6 ⟨j,h,rfl⟩)) _⟩,om⟩
   unfold dU;dsimp only;by_cases e:i=j/\c=r
   .obtain⟨rfl,rfl⟩:=e;rw[aj ⟨rfl,rfl⟩,aj om]
   .rw[ah e];by_cases C:i=j/\f<=c/\c<r
    .rw[aj C,aj om]
    .rw[ah C,ah om]
  .obtain rfl:r=m:=om
   simp only[go_sem,s,t,u,x,B,h,d];refine Bh om ?_;exact⟨a.congr fun i c _ X=>by
    by_cases e:i=j/\f<=c
    .rw[aj e,aj om]
    .rw[ah e,ah om],w⟩

def o8(A:az)(i j:Nat)(a b x y:Int):az:=fun c r=>if c=i then a*A i r+b*A j r else if c=j then x*A j r+-y*A i r else A c r
def GF(A:az)(j f:Nat)(M:Int):az:=fun c r=>if c=j/\f<=r then A c r%M else A c r
def Bw(A:az)(i j:Nat)(M:Int):az:=if A j i=0 then A else
 GF (GF (o8 A i j (bz (A i i).toNat (A j i).toNat).2.1 (bz (A i i).toNat (A j i).toNat).2.2 (A i i/(bz (A i i).toNat (A j i).toNat).1) (A j i/(bz (A i i).toNat (A j i).toNat).1)) i i M) j i M
def lv(h:0<=z/\z<PB):nb z KB:=Gf ⟨om,h.2⟩
def AF{x y:Int}(a:0<=x/\x<PB)(b:0<=y/\y<PB)(d:x≠0∨y≠0):PF 268 [ϱ x,ϱ y] (.tup [ϱ (bz x.toNat y.toNat).1,ϱ (bz x.toNat y.toNat).2.1,ϱ (bz x.toNat y.toNat).2.2]):=by
 have c:=mR;have:=Kx x.toNat y.toNat KB om om (Qz a) (Qz b) om;rw[c9 a.1,c9 b.1]at this;exact this
structure xB(T:St)(b:Nat)(g:Nat->Nat)(N m i j:Nat)(v1 v2:Nat->Int)(PL:List (Nat×Nat×AV))(BL:List (Nat×AV))(L:Nat->Bool)(O:Tm)(S:St):Prop where
 base:∀e∈BL,O e.1=e.2
 pure:∀e∈PL,L e.1=true->O e.2.1=e.2.2
 mem:∃c1 c2,(L 9=true->O 60=ϕ c1 0 m/\iY S c1 m v1/\T c1=ae)/\(L 16=true->O 67=ϕ c2 0 m/\iY S c2 m v2/\T c2=ae/\c1≠c2)/\aY S b 59 1 N (fun k=>ϕ (if L 18=true/\k=i then c1 else if L 20=true/\k=j then c2 else g k) 0 m)
 keep:iX b T S
 ord:(L 15=true->L 9=true)/\(L 16=true->L 15=true)/\(L 18=true->L 16=true)/\(L 20=true->L 18=true)
def xB.put{PL:List (Nat×Nat×AV)}{L:Nat->Bool}(h:xB T b g N m i j v1 v2 PL BL L O S){k d:Nat}{z:AV}
  (s:∀e∈PL,e.1=k->e.2.2=z) (u:∀e∈PL,e.1≠k->e.2.1≠d) (p:∀e∈PL,e.1=k->e.2.1=d) (v:∀e∈BL,e.1≠d) (q:d≠60/\d≠67) (a:k≠9/\k≠16/\k≠18/\k≠20) (w:k=15->L 9=true) :
  xB T b g N m i j v1 v2 PL BL (fun c=>if c=k then true else L c) (O.put (some d) z) S:=by
 have l:∀t,t≠d->(O.put (some d) z) t=O t:=fun t x=>by rw[Tm.put_eq];exact ah x
 have y:(O.put (some d) z) d=z:=by rw[Tm.put_eq];exact aj rfl
 refine⟨fun e f=>by rw[l _ (v e f)];exact h.base e f,fun e f r=>?_,?_,h.keep,?_⟩
 .by_cases n:e.1=k
  .rw[p e f n,y,s e f n]
  .rw[l _ (u e f n)];simp only[n,aI]at r;exact h.pure e f r
 .obtain⟨A,B,C,D,E⟩:=h.mem;refine⟨A,B,?_,?_,?_⟩
  .rw[ah (ai a.1),l _ (ai q.1)];exact C
  .rw[ah (ai a.2.1),l _ (ai q.2)];exact D
  .rw[ah (ai a.2.2.1),ah (ai a.2.2.2)];exact E
 .obtain⟨F,G,H,I⟩:=h.ord;rw[ah (ai a.1),ah (ai a.2.1),ah (ai a.2.2.1),ah (ai a.2.2.2)];refine⟨fun o=>?_,fun o=>?_,H,I⟩
  .by_cases e:15=k
   .exact w e.symm
   .rw[ah e]at o;exact F o
  .by_cases e:15=k
   .rw[aj e]
   .rw[ah e];exact G o
structure Nt(S0 S:St)(b b7 b8 b9 b11 b12:Nat)(g:Nat->Nat)(N m:Nat)(A:az)(M x y a b':Int):Prop where
 mat:dr S b g N m A
 cols:ni S0 S b g g N
 v7:cS S b7 50 2 (ϱ M)
 v8:cS S b8 50 2 (ϱ x)
 v9:cS S b9 50 2 (ϱ y)
 v11:cS S b11 50 2 (ϱ a)
 v12:cS S b12 50 2 (ϱ b')
 n7:S0 b7=ae
section
variable {S0 T:St} {b b7 b8 b9 b11 b12:Nat} {g:Nat->Nat} {N m i j:Nat} {A:az} {M x y a b':Int} {v1 v2:Nat->Int} {PL:List (Nat×Nat×AV)} {BL:List (Nat×AV)} {L:Nat->Bool} {O:Tm} {S:St}
def iX.fresh(h:iX b T S)(d:S b≠ae){c:Nat}(a:S c=ae):T c=ae:=by
 cases e:T c with
 | none=>rfl
 | some X =>
  have:c≠b:=fun f=>d (f▸a);rw[h c X e this]at a;cases a
def xB.off(h:xB T b g N m i j v1 v2 PL BL L O S)(c:L 16=false):L 18=false/\L 20=false:=by
 obtain⟨k,l,d,f⟩:=h.ord;have a:L 18=false:=by cases e:L 18 with
  | false=>rfl
  | true=>rw[d e]at c;cases c
 refine⟨a,?_⟩
 cases e:L 20 with
 | false=>rfl
 | true=>rw[f e]at a;cases a
def xB.colS(d:Nt S0 T b b7 b8 b9 b11 b12 g N m A M x y a b')(h:xB T b g N m i j v1 v2 PL BL L O S)(c:L 16=false):rS S b g N m A:=by
 obtain⟨o,p,q,r,f⟩:=h.mem;obtain⟨l,n⟩:=h.off c;exact⟨f.congr fun k _=>by simp[l,n],fun k e=>h.keep.has (d.mat.row k e) (ai (d.mat.outer_ne e))⟩
def xB.call9(D:Nt S0 T b b7 b8 b9 b11 b12 g N m A M x y a b')(h:xB T b g N m i j (fun r=>a*A i r+b'*A j r) v2 PL BL L O S)(q:L 9=false)(E:i<j)(F:j<N)(G:m<=100)(H:∀c r,c<N->r<m->0<=A c r/\A c r<PB)(na:nb a KB)(nb':nb b' KB)
  (s:∀e∈PL,e.1≠9/\e.2.1≠60) (I:∀e∈BL,e.1≠60) :
  cI 269 [ϑ b 0 N,ι i,ϱ a,ι j,ϱ b'] S (fun z S'=>xB T b g N m i j (fun r=>a*A i r+b'*A j r) v2 PL BL (fun k=>if k=9 then true else L k) (O.put (some 60) z) S'):=by
 have J:=mR;obtain⟨K,P,Z,o4⟩:=h.ord;have l:L 15=false:=by cases e:L 15 with
  | false=>rfl
  | true=>rw[K e]at q;cases q
 have f:L 16=false:=by cases e:L 16 with
  | false=>rfl
  | true=>rw[P e]at l;cases l
 obtain⟨u,v⟩:=h.off f;have d:=xB.colS D h f;refine(og N m KB i j A a b' om F G (fun c r Q R=>lv (H c r Q R)) na nb' om _ _ (eM.first d.vr.va)).mono ?_
 rintro _ S1 ⟨o,rfl,U,w,V⟩;have B:∀t,t≠60->(O.put (some 60) (ϕ o 0 m)) t=O t:=fun t W=>by rw[Tm.put_eq];exact ah W
 have X:(O.put (some 60) (ϕ o 0 m)) 60=ϕ o 0 m:=by rw[Tm.put_eq];exact aj rfl
 have p:S b≠ae:=by obtain⟨z,k,_⟩:=d.outer;rw[k];simp
 refine⟨fun e n=>by rw[B _ (I e n)];exact h.base e n,fun e n C=>?_,⟨o,0,fun _=>⟨X,U,h.keep.fresh p V⟩,fun Y=>?_,?_⟩,h.keep.trans (iX.ext w),?_⟩
 .rw[B _ (s e n).2];simp only[(s e n).1,aI]at C;exact h.pure e n C
 .simp[f]at Y
 .refine(w.has d.outer).congr fun k _=>?_;simp[u,v]
 .simp[l,f,u,v]
def xB.call16(F:Nt S0 T b b7 b8 b9 b11 b12 g N m A M x y a b')(h:xB T b g N m i j v1 (fun r=>x*A j r+-y*A i r) PL BL L O S)(s:L 16=false)(f:L 15=true)(G:i<j)(H:j<N)(I:m<=100)(J:∀c r,c<N->r<m->0<=A c r/\A c r<PB)(na:nb x KB)(nb':nb y KB)
  (u:∀e∈PL,e.1≠16/\e.2.1≠67) (K:∀e∈BL,e.1≠67) :
  cI 269 [ϑ b 0 N,ι j,ϱ x,ι i,ϱ (-y)] S (fun z S'=>xB T b g N m i j v1 (fun r=>x*A j r+-y*A i r) PL BL (fun k=>if k=16 then true else L k) (O.put (some 67) z) S'):=by
 have P:=mR;obtain⟨v,o2,o3,o4⟩:=h.ord;obtain⟨w,B⟩:=h.off s;have d:=xB.colS F h s;refine(og N m KB j i A x (-y) H om I (fun c r Q R=>lv (J c r Q R)) na nb'.neg om _ _ (eM.first d.vr.va)).mono ?_
 rintro _ S1 ⟨n,rfl,U,o,C⟩;have p:∀t,t≠67->(O.put (some 67) (ϕ n 0 m)) t=O t:=fun t V=>by rw[Tm.put_eq];exact ah V
 have W:(O.put (some 67) (ϕ n 0 m)) 67=ϕ n 0 m:=by rw[Tm.put_eq];exact aj rfl
 have q:S b≠ae:=by obtain⟨z,k,_⟩:=d.outer;rw[k];simp
 obtain⟨X,_,Y,_,_⟩:=h.mem;obtain⟨Z,D,q3⟩:=Y (v f);refine⟨fun e l=>by rw[p _ (K e l)];exact h.base e l,fun e l E=>?_,⟨X,n,fun _=>⟨by rw[p _ dc];exact Z,o.has D,q3⟩,fun _=>⟨W,U,h.keep.fresh q C,aY.fresh D C⟩,?_⟩,h.keep.trans (iX.ext o),?_⟩
 .rw[p _ (u e l).2];simp only[(u e l).1,aI]at E;exact h.pure e l E
 .refine(o.has d.outer).congr fun k _=>?_;simp[w,B]
 .simp[f,v f,w,B]
def xB.st18(h:xB T b g N m i j v1 v2 PL BL L O S)(n:L 9=true)(a:L 16=true)(o:L 18=false)(v:i<j)(K:j<N)(w:∀e∈PL,e.1≠18) :
  ∃c f,O 60=ϕ c 0 m/\S b=some ⟨59,1,N,f⟩/\xB T b g N m i j v1 v2 PL BL (fun k=>if k=18 then true else L k) O (S.upd b ⟨59,1,N,aL f i (ϕ c 0 m)⟩):=by
 obtain⟨M,x,P,y⟩:=h.ord;have d:L 20=false:=by cases e:L 20 with
  | false=>rfl
  | true=>rw[y e]at o;cases o
 obtain⟨c,p,z,A,l⟩:=h.mem;obtain⟨q,r,B⟩:=z n;obtain⟨C,s,D,E⟩:=A a;obtain⟨f,F,G⟩:=id l;have H:c≠b:=ai (aY.ne l r dc)
 have I:p≠b:=ai (aY.ne l s dc)
 refine⟨c,f,q,F,h.base,fun e t u=>?_,⟨c,p,fun _=>⟨q,r.upd H _,B⟩,fun _=>⟨C,s.upd I _,D,E⟩,aY.here fun k J=>?_⟩,h.keep.upd (a6 rfl) _,?_⟩
 .simp only[w e t,aI]at u;exact h.pure e t u
 .have:=G k J;simp only[aL];by_cases e:k=i
  .simp[e]
  .rw[ah e,this];simp[e,d]
 .simp[n,a,d,x a]
def xB.st20(h:xB T b g N m i j v1 v2 PL BL L O S)(a:L 16=true)(c:L 18=true)(I:L 20=false)(v:i<j)(J:j<N)(w:∀e∈PL,e.1≠20) :
  ∃d f,O 67=ϕ d 0 m/\S b=some ⟨59,1,N,f⟩/\xB T b g N m i j v1 v2 PL BL (fun k=>if k=20 then true else L k) O (S.upd b ⟨59,1,N,aL f j (ϕ d 0 m)⟩):=by
 obtain⟨o,l,K,M⟩:=h.ord;obtain⟨p,d,x,y,n⟩:=h.mem;obtain⟨z,q,A⟩:=x (o (l a));obtain⟨r,s,B,C⟩:=y a;obtain⟨f,D,E⟩:=id n;have F:p≠b:=ai (aY.ne n q dc)
 have G:d≠b:=ai (aY.ne n s dc)
 refine⟨d,f,r,D,h.base,fun e t u=>?_,⟨p,d,fun _=>⟨z,q.upd F _,A⟩,fun _=>⟨r,s.upd G _,B,C⟩,aY.here fun k H=>?_⟩,h.keep.upd (a6 rfl) _,?_⟩
 .simp only[w e t,aI]at u;exact h.pure e t u
 .have:=E k H;simp only[aL];by_cases e:k=j
  .have:¬j=i:=om
   simp[e,c,this]
  .rw[ah e,this];simp[e,c]
 .simp[a,c,l a,o (l a)]
def xB.fin(s:Nt S0 T b b7 b8 b9 b11 b12 g N m A M x y a b')(h:xB T b g N m i j (fun r=>a*A i r+b'*A j r) (fun r=>x*A j r+-y*A i r) PL BL L O S)(t:∀k,k<21->L k=true)(H:i<j):∃g',dr S b g' N m (o8 A i j a b' x y)/\ni T S b g g' N:=by
 obtain⟨B,C,I,J,K⟩:=h.mem;obtain⟨U,P,D⟩:=I (t 9 om);obtain⟨V,Q,E,F⟩:=J (t 16 om);have G:∀k,k<N->T (g k)≠ae:=fun k c=>by obtain⟨z,e,_⟩:=s.mat.row k c;rw[e];simp
 refine⟨fun k=>if k=i then B else if k=j then C else g k,⟨K.congr fun k _=>by simp[t 18 om,t 20 om],fun k c=>?_,fun k l c u e=>?_⟩,fun k X R c _=>h.keep k X R c,fun k c=>?_⟩
 .by_cases v:k=i
  .simp only[v,aH];exact P.congr fun r _=>by simp[o8]
  .by_cases w:k=j
   .simp only[w,aH,(om:¬j=i),aI]
    exact Q.congr fun r _=>by simp[o8,(om:¬j=i)]
   .simp only[v,w,aI];exact(h.keep.has (s.mat.row k c) (ai (s.mat.outer_ne c))).congr fun r _=>by simp[o8,v,w]
 .have p:∀k,k<N->g k≠B:=fun k c e=>G k c (e▸D);have q:∀k,k<N->g k≠C:=fun k c e=>G k c (e▸E);by_cases d:k=i
  .by_cases f:l=i
   .omega
   .by_cases o:l=j
    .rw[aj d,ah f,aj o]at e;exact absurd e F
    .rw[aj d,ah f,ah o]at e;exact absurd e.symm (p l u)
  .by_cases n:k=j
   .by_cases f:l=i
    .rw[ah d,aj n,aj f]at e;exact absurd e.symm F
    .by_cases o:l=j
     .omega
     .rw[ah d,aj n,ah f,ah o]at e;exact absurd e.symm (q l u)
   .by_cases f:l=i
    .rw[ah d,ah n,aj f]at e;exact absurd e (p k c)
    .by_cases o:l=j
     .rw[ah d,ah n,ah f,aj o]at e;exact absurd e (q k c)
     .rw[ah d,ah n,ah f,ah o]at e;exact s.mat.inj k l c u e
 .by_cases d:k=i
  .simp only[d,aH];exact aQ D
  .by_cases n:k=j
   .simp only[n,aH,(om:¬j=i),aI];exact aQ E
   .simp only[d,n,aI];exact a6 ⟨k,c,rfl⟩
end
def k9{K:Tm->St->Prop}(P:St->Prop)(a:P S)(h:∀T,P T->It ops O T K):It ops O S K:=h S a
def dl{K:Tm->St->Prop}(h:o.guard=ae)(k:Nx o O S (fun z S'=>K (O.put o.dst z) S')):oU ops o O S K:=by unfold oU;rw[h];exact k
def Hm(S0:St)(b:Nat)(g:Nat->Nat)(N m i j:Nat)(A:az)(M:Int)(v:i<j)(t:j<N)(hi:i<m)(hm:m<=100)(hM:0<M)(Q:nb M KB)(z:∀c r,c<N->r<m->0<=A c r/\A c r<PB)(q:dr S0 b g N m A) :
  cI 267 [ϑ b 0 N,ι i,ι j,ϱ M] S0 (fun _ S'=>∃g',dr S' b g' N m (Bw A i j M)/\ni S0 S' b g g' N):=by
 have hKB:=mR;refine fC func267 rfl 80 ntmps267 kr sm ?_
 rw[jY,results267];have n:i<N:=om
 simp -dsimp only[go_sem];refine ax.intro fun b7 f7=>?_;have B:=q.ext ((dh.refl S0).upd f7 ⟨50,2,1,fun _=>ϱ M⟩);obtain⟨g1,u1,v1⟩:=id B.outer;obtain⟨g2,u2,v2⟩:=id (B.row i n);obtain⟨g3,u3,v3⟩:=id (B.row j t);have x1:g1 i=ϕ (g i) 0 m:=v1 i n;have x2:g1 j=ϕ (g j) 0 m:=v1 j t;have x3:g2 i=ϱ (A i i):=v2 i hi;have x4:g3 i=ϱ (A j i):=v3 i hi;refine iz 16 [[7,8,9,10,11,12,13],[]] kr ?_
 simp -dsimp only[*,go_sem,aa];refine ax.intro fun b8 f8=>?_;have n8_7:=(af f8).1
 try simp -dsimp only[go_sem]
 refine ax.intro fun b9 f9=>?_;have n9_8:=(af f9).1;have n9_7:=(af (af f9).2).1;have s8:S0 b8=ae:=(af f8).2;have s9:S0 b9=ae:=(af (af f9).2).2;have w7:b≠b7:=aY.fresh q.outer f7;have w8:b≠b8:=aY.fresh q.outer s8;have w9:b≠b9:=aY.fresh q.outer s9;have y7:∀a,a<N->g a≠b7:=fun a f=>aY.fresh (q.row a f) f7;have y8:∀a,a<N->g a≠b8:=fun a f=>aY.fresh (q.row a f) s8;have y9:∀a,a<N->g a≠b9:=fun a f=>aY.fresh (q.row a f) s9;have w8i:=y8 i n;have w8j:=y8 j t;have w9i:=y9 i n;have w9j:=y9 j t;simp -dsimp only[*,go_sem,aL,ai n9_8];have ki:=z i i n hi;have kj:=z j i t hi;refine(ka (lv kj) om).call ?_;by_cases hz:A j i=0
 .simp only[go_sem,hz,show(Int.sign 0==0)=true from rfl];refine⟨g,?_,?_⟩
  .rw[Bw,aj hz]
   repeat' first|exact q|refine dr.upd ?_ (by assumption) (by assumption) _
  .repeat' first|exact ni.refl S0 b g N|refine ni.upd ?_ (aQ (aQ (by assumption))) _
 .have hs:((A j i).sign==0)=false:=by
   have:(A j i).sign=1:=cX om;rw[this];rfl
  simp -dsimp only[go_sem,aa,hs,ai n9_8,dL];refine(AF om om (aQ hz)).call ?_;generalize C:bz (A i i).toNat (A j i).toNat=D at *;simp -dsimp only[go_sem,dL];refine ax.intro fun E s=>?_;have n10_9:=(af s).1;have n10_8:=(af (af s).2).1;have n10_9:=(af (af (af s).2).2).1;have n10_8:=(af (af (af (af s).2).2).2).1;have n10_7:=(af (af (af (af (af s).2).2).2).2).1;simp -dsimp only[go_sem];refine ax.intro fun b11 p=>?_;have n11_10:=(af p).1;have n11_9:=(af (af p).2).1;have n11_8:=(af (af (af p).2).2).1;have n11_9:=(af (af (af (af p).2).2).2).1;have n11_8:=(af (af (af (af (af p).2).2).2).2).1;have n11_7:=(af (af (af (af (af (af p).2).2).2).2).2).1;simp -dsimp only[go_sem];refine ax.intro fun b12 o=>?_;have n12_11:=(af o).1;have n12_10:=(af (af o).2).1;have n12_9:=(af (af (af o).2).2).1;have n12_8:=(af (af (af (af o).2).2).2).1;have n12_9:=(af (af (af (af (af o).2).2).2).2).1;have n12_8:=(af (af (af (af (af (af o).2).2).2).2).2).1;have n12_7:=(af (af (af (af (af (af (af o).2).2).2).2).2).2).1;simp -dsimp only[*,go_sem,aa,ai n9_8,ai n10_8,ai n11_8,ai n11_10,ai n12_8,ai n12_10,ai n12_11,dL];have R:S0 E=ae:=(af (af (af (af (af s).2).2).2).2).2;have U:S0 b11=ae:=(af (af (af (af (af (af p).2).2).2).2).2).2;have V:S0 b12=ae:=(af (af (af (af (af (af (af o).2).2).2).2).2).2).2;have w10:b≠E:=aY.fresh q.outer R;have w11:b≠b11:=aY.fresh q.outer U;have w12:b≠b12:=aY.fresh q.outer V;have y10:∀a,a<N->g a≠E:=fun a f=>aY.fresh (q.row a f) R;have y11:∀a,a<N->g a≠b11:=fun a f=>aY.fresh (q.row a f) U;have y12:∀a,a<N->g a≠b12:=fun a f=>aY.fresh (q.row a f) V;have F:=AC (A j i).toNat (A i i).toNat (A j i).toNat om (aQ om);have hD2:=MQ (A j i).toNat (A i i).toNat (A j i).toNat om om;rw[C]at F hD2;have nD1:nb D.1 KB:=Gf om;have nD2:nb D.2.1 KB:=Gf om;have nD3:nb D.2.2 KB:=Gf om;refine(ft (lv ki) nD1 om om).call ?_;simp -dsimp only[*,go_sem,aa,ai n9_8,ai n10_8,ai n10_9,ai n11_8,ai n11_9,ai n11_10,ai n12_8,ai n12_9,ai n12_10,dL];refine(ft (lv kj) nD1 om om).call ?_;simp -dsimp only[go_sem,aa,n9_8,ai n10_9,ai n11_9,ai n12_9,dL];have W:nb (A i i/D.1) KB:=by
   have:=oT D.1 ki.1;have:=mC ki.1 (a8 F.1);exact Gf om
  have G:nb (A j i/D.1) KB:=by
   have:=oT D.1 kj.1;have:=mC kj.1 (a8 F.1);exact Gf om
  refine k9 (fun T=>Nt S0 T b b7 b8 b9 b11 b12 g N m A M (A i i/D.1) (A j i/D.1) D.2.1 D.2.2) ?_ ?_
  .constructor
   .repeat' first|exact q|refine dr.upd ?_ (by assumption) (by assumption) _
   .repeat' first|exact ni.refl S0 b g N|refine ni.upd ?_ (aQ (aQ (by assumption))) _
   all_goals first|exact f7|simp only[cS.at_hit,cS.at_miss,yL,ia,aL,aH,n11_8,n11_9,n12_8,n12_9,ai n8_7,ai n9_7,ai n9_8,ai n10_7,ai n11_7,ai n12_7,ai n12_11]
  intro T u;generalize hxx:A i i/D.1=x' at *;generalize hyy:A j i/D.1=y' at *;refine wU (xB T b g N m i j (fun r=>D.2.1*A i r+D.2.2*A j r) (fun r=>x'*A j r+-y'*A i r) [(0,51,ϑ b 0 N),(1,52,ι i),(2,53,ϑ b 0 N),(3,54,ι j),(4,55,ϑ b 0 N),(5,56,ι i),(6,57,ϱ D.2.1),(7,58,ι j),(8,59,ϱ D.2.2),(10,61,ϑ b 0 N),(11,62,ι j),(12,63,ϱ x'),(13,64,ι i),(14,65,ϱ y'),(15,66,ϱ (-y')),(17,68,ϰ b i),(19,69,ϰ b j)] [(0,ϑ b 0 N),(1,ι i),(2,ι j),(7,ϖ b7 0),(8,ϖ b8 0),(9,ϖ b9 0),(11,ϖ b11 0),(12,ϖ b12 0)]) kr ?_ ?_ ?_
  .refine⟨?_,(fun e _ h=>by cases h),⟨0,0,(fun h=>by cases h),(fun h=>by cases h),u.mat.outer.congr fun k _=>by simp⟩,iX.refl _ _,sm⟩
   simp only[aU,bF,ca,cA,Tv];simp only[go_sem]
  .clear f8 f9 s p o C;refine⟨?_,?_,?_,?_,?_,?_,?_,?_,?_,?_,?_,?_,?_,?_,?_,?_,?_,?_,?_,?_,?_,trivial⟩
   .intro L O S d l f;have al:∀k,_->L k=true:=aG.1 f;refine dl rfl ?_;have w:O 0=ϑ b 0 N:=d.base (0,ϑ b 0 N) sm
    simp only[go_sem,w];exact d.put sm sm sm sm dc dc (by intro h;cases h)
   .intro L O S d l f;have al:∀k,_->L k=true:=aG.1 f;refine dl rfl ?_;have H:O 1=ι i:=d.base (1,ι i) sm
    simp only[go_sem,H];exact d.put sm sm sm sm dc dc (by intro h;cases h)
   .intro L O S d l f;have al:∀k,_->L k=true:=aG.1 f;refine dl rfl ?_;have w:O 0=ϑ b 0 N:=d.base (0,ϑ b 0 N) sm
    simp only[go_sem,w];exact d.put sm sm sm sm dc dc (by intro h;cases h)
   .intro L O S d l f;have al:∀k,_->L k=true:=aG.1 f;refine dl rfl ?_;have I:O 2=ι j:=d.base (2,ι j) sm
    simp only[go_sem,I];exact d.put sm sm sm sm dc dc (by intro h;cases h)
   .intro L O S d l f;have al:∀k,_->L k=true:=aG.1 f;refine dl rfl ?_;have w:O 0=ϑ b 0 N:=d.base (0,ϑ b 0 N) sm
    simp only[go_sem,w];exact d.put sm sm sm sm dc dc (by intro h;cases h)
   .intro L O S d l f;have al:∀k,_->L k=true:=aG.1 f;refine dl rfl ?_;have H:O 1=ι i:=d.base (1,ι i) sm
    simp only[go_sem,H];exact d.put sm sm sm sm dc dc (by intro h;cases h)
   .intro L O S d l f;have al:∀k,_->L k=true:=aG.1 f;refine dl rfl ?_;have e11:O 11=ϖ b11 0:=d.base (11,ϖ b11 0) sm
    obtain⟨gg,uu,xx⟩:=d.keep.var u.v11 (ai w11);simp only[*,go_sem];exact d.put sm sm sm sm dc dc (by intro h;cases h)
   .intro L O S d l f;have al:∀k,_->L k=true:=aG.1 f;refine dl rfl ?_;have I:O 2=ι j:=d.base (2,ι j) sm
    simp only[go_sem,I];exact d.put sm sm sm sm dc dc (by intro h;cases h)
   .intro L O S d l f;have al:∀k,_->L k=true:=aG.1 f;refine dl rfl ?_;have e12:O 12=ϖ b12 0:=d.base (12,ϖ b12 0) sm
    obtain⟨gg,uu,xx⟩:=d.keep.var u.v12 (ai w12);simp only[*,go_sem];exact d.put sm sm sm sm dc dc (by intro h;cases h)
   .intro L O S d l f;have al:∀k,_->L k=true:=aG.1 f;refine dl rfl ?_;have p4:O 55=ϑ b 0 N:=d.pure (4,55,ϑ b 0 N) sm (al 4 dc)
    have p5:O 56=ι i:=d.pure (5,56,ι i) sm (al 5 dc)
    have p6:O 57=ϱ D.2.1:=d.pure (6,57,ϱ D.2.1) sm (al 6 dc)
    have p7:O 58=ι j:=d.pure (7,58,ι j) sm (al 7 dc)
    have p8:O 59=ϱ D.2.2:=d.pure (8,59,ϱ D.2.2) sm (al 8 dc)
    simp -dsimp only[go_sem,p4,p5,p6,p7,p8];exact xB.call9 u d l v t hm z nD2 nD3 sm sm
   .intro L O S d l f;have al:∀k,_->L k=true:=aG.1 f;refine dl rfl ?_;have w:O 0=ϑ b 0 N:=d.base (0,ϑ b 0 N) sm
    simp only[go_sem,w];exact d.put sm sm sm sm dc dc (by intro h;cases h)
   .intro L O S d l f;have al:∀k,_->L k=true:=aG.1 f;refine dl rfl ?_;have I:O 2=ι j:=d.base (2,ι j) sm
    simp only[go_sem,I];exact d.put sm sm sm sm dc dc (by intro h;cases h)
   .intro L O S d l f;have al:∀k,_->L k=true:=aG.1 f;refine dl rfl ?_;have e8:O 8=ϖ b8 0:=d.base (8,ϖ b8 0) sm
    obtain⟨gg,uu,xx⟩:=d.keep.var u.v8 (ai w8);simp only[*,go_sem];exact d.put sm sm sm sm dc dc (by intro h;cases h)
   .intro L O S d l f;have al:∀k,_->L k=true:=aG.1 f;refine dl rfl ?_;have H:O 1=ι i:=d.base (1,ι i) sm
    simp only[go_sem,H];exact d.put sm sm sm sm dc dc (by intro h;cases h)
   .intro L O S d l f;have al:∀k,_->L k=true:=aG.1 f;refine dl rfl ?_;have e9:O 9=ϖ b9 0:=d.base (9,ϖ b9 0) sm
    obtain⟨gg,uu,xx⟩:=d.keep.var u.v9 (ai w9);simp only[*,go_sem];exact d.put sm sm sm sm dc dc (by intro h;cases h)
   .intro L O S d l f;have al:∀k,_->L k=true:=aG.1 f;refine dl rfl ?_;have p14:O 65=ϱ y':=d.pure (14,65,ϱ y') sm (al 14 dc)
    simp -dsimp only[go_sem,p14];refine(td G om).call ?_;simp only[go_sem];exact d.put sm sm sm sm dc dc (fun _=>al 9 dc)
   .intro L O S d l f;have al:∀k,_->L k=true:=aG.1 f;refine dl rfl ?_;have p10:O 61=ϑ b 0 N:=d.pure (10,61,ϑ b 0 N) sm (al 10 dc)
    have p11:O 62=ι j:=d.pure (11,62,ι j) sm (al 11 dc)
    have p12:O 63=ϱ x':=d.pure (12,63,ϱ x') sm (al 12 dc)
    have p13:O 64=ι i:=d.pure (13,64,ι i) sm (al 13 dc)
    have p15:O 66=ϱ (-y'):=d.pure (15,66,ϱ (-y')) sm (al 15 dc)
    simp -dsimp only[go_sem,p10,p11,p12,p13,p15];exact xB.call16 u d l (al 15 dc) v t hm z W G sm sm
   .intro L O S d l f;have al:∀k,_->L k=true:=aG.1 f;refine dl rfl ?_;have p0:O 51=ϑ b 0 N:=d.pure (0,51,ϑ b 0 N) sm (al 0 dc)
    have p1:O 52=ι i:=d.pure (1,52,ι i) sm (al 1 dc)
    simp only[*,go_sem];exact d.put sm sm sm sm dc dc (by intro h;cases h)
   .intro L O S d l f;have al:∀k,_->L k=true:=aG.1 f;refine dl rfl ?_;have p17:O 68=ϰ b i:=d.pure (17,68,ϰ b i) sm (al 17 dc)
    obtain⟨c1,g1,K,P,q3⟩:=d.st18 (al 9 dc) (al 16 dc) l v t sm
    simp only[go_sem,aa,p17,K,P,n];exact q3
   .intro L O S d l f;have al:∀k,_->L k=true:=aG.1 f;refine dl rfl ?_;have p2:O 53=ϑ b 0 N:=d.pure (2,53,ϑ b 0 N) sm (al 2 dc)
    have p3:O 54=ι j:=d.pure (3,54,ι j) sm (al 3 dc)
    simp only[*,go_sem];exact d.put sm sm sm sm dc dc (by intro h;cases h)
   .intro L O S d l f;have al:∀k,_->L k=true:=aG.1 f;refine dl rfl ?_;have p19:O 69=ϰ b j:=d.pure (19,69,ϰ b j) sm (al 19 dc)
    obtain⟨c2,g1,K,P,q3⟩:=d.st20 (al 16 dc) (al 18 dc) l v t sm
    simp only[go_sem,aa,p19,K,P,t];exact q3
  .intro L O S d l;obtain⟨g',X,Y⟩:=xB.fin u d l v;have w:O 0=ϑ b 0 N:=d.base (0,ϑ b 0 N) sm
   have H:O 1=ι i:=d.base (1,ι i) sm
   have I:O 2=ι j:=d.base (2,ι j) sm
   have e7:O 7=ϖ b7 0:=d.base (7,ϖ b7 0) sm
   obtain⟨gg,uu,xx⟩:=d.keep.var u.v7 (ai w7);simp -dsimp only[*,go_sem,aa];have nC:∀c r,c<N->r<m->nb (o8 A i j D.2.1 D.2.2 x' y' c r) (KB+KB+1):=fun c r hc J=>by
    have K:=lv (z i r n J);have P:=lv (z j r t J);unfold o8;split
    .exact(nD2.mul K).add (nD3.mul P)
    .split
     .exact(W.mul P).add (G.neg.mul K)
     .exact(lv (z c r hc J)).mono om
   obtain⟨z7,k7,_⟩:=id u.v7;have g7:∀a,a<N->g' a≠b7:=Y.ne k7 y7;refine(oB S b g' N m i i _ M n hm om hM (KB+KB+1) (Q.mono om) om (fun r J=>nC i r n J) X).mono ?_;rintro _ S1 ⟨x,y⟩;obtain⟨g3,u3,x3⟩:=y.var ⟨gg,uu,xx⟩ (ai w7) g7;simp -dsimp only[go_sem,aa,w,H,I,e7,u3,x3];refine(oB S1 b g' N m j i _ M t hm om hM (KB+KB+1) (Q.mono om) om (fun r J=>?_) x).mono ?_
   .rw[ah om];exact nC j r t J
   rintro _ S2 ⟨Z,hC2'⟩;simp only[go_sem];refine⟨g',?_,(u.cols.trans (Y.trans (y.trans hC2' x.some) X.some) u.mat.some)⟩;have e:Bw A i j M=GF (GF (o8 A i j D.2.1 D.2.2 x' y') i i M) j i M:=by
    rw[Bw,ah hz,C,hxx,hyy]
   rw[e];exact Z

def TL.M_le(h:TL N L d M):∀i,i<=N->M i<=M 0
 | 0,_=>mV _
 | i+1,a=>by
  have b:=h.M_le i om;have c:=h.step i om;have e:=h.pos i om;have f:=h.M_pos N (i+1) om a;have g:1*M (i+1)<=d i*M (i+1):=bK om om;omega
def TL.d_le(h:TL N L d M){i:Nat}(a:i<N):d i<=M 0:=by
 have b:=h.M_le i om;have c:=h.step i a;have e:=h.pos i a;have f:=h.M_pos N (i+1) om om;have g:d i*1<=d i*M (i+1):=aT om om;omega
def HI.rng(a:TL N L d M){i:Nat}{C:Nat->gP}(h:HI N L d M i C)(k:i<=N)(l:∀c r,c<N->i<=r->r<N->0<=C c r/\C c r<M i){c r:Nat}(j:c<N)(f:r<N):0<=C c r/\C c r<=M 0:=by
 have p:=a.M_le i k;rcases aB r i with e|e
 .rcases aB c i with g|g
  .obtain⟨m,n,o⟩:=h.done c g;rcases c8 r c with b|b|b
   .rw[m r b];have:=a.M_pos N 0 om om;omega
   .rw[b,n];have:=a.pos c om;have:=a.d_le (i:=c) om;omega
   .have:=o r b e;have:=a.d_le (i:=r) om;omega
  .rw[h.zero c g j r e];have:=a.M_pos N 0 om om;omega
 .have:=l c r j e f;omega
def uH(x M:Int):x%M=x+M*(-(x/M)):=by
 have:=oA x M;rw[mU];omega
def Rx(m:TL N L d M){i j:Nat}{C:az}(h:HI N L d M i C)(n:i<j)(u:j<N)(l:∀c r,c<N->i<=r->r<N->0<=C c r/\C c r<M i) :
  HI N L d M i (Bw C i j (M i))/\(∀c r,c<N->i<=r->r<N->0<=Bw C i j (M i) c r/\Bw C i j (M i) c r<M i)/\Bw C i j (M i) j i=0/\∀c r,c≠i->c≠j->Bw C i j (M i) c r=C c r:=by
 have f:i<N:=om
 have o:=m.M_pos N i om om;unfold Bw;by_cases v:C j i=0
 .simp only[v,aH];exact⟨h,l,trivial,fun _ _ _ _=>trivial⟩
 .have ki:=l i i f (ag _) f;have kj:=l j i u (ag _) f;have w:=DS (C j i).toNat (C i i).toNat (C j i).toNat (ag _);have p:=DT (C j i).toNat (C i i).toNat (C j i).toNat (ag _);have F:=AC (C j i).toNat (C i i).toNat (C j i).toNat (ag _) (aQ om);rw[ah v];generalize bz (C i i).toNat (C j i).toNat=D at *;rw[c9 ki.1,c9 kj.1]at w p;obtain⟨x,q⟩:=p.1;obtain⟨y,s⟩:=p.2;have ex:C i i/D.1=x:=by rw[q];exact cn _ om
  have ey:C j i/D.1=y:=by rw[s];exact cn _ om
  rw[ex,ey];have B:D.2.1*x+D.2.2*y=1:=by
   rw[q,s]at w;refine cJ (om:D.1≠0) ?_
   grind
  have E:HI N L d M i (o8 C i j D.2.1 D.2.2 x y):=h.comb m n u B (fun r _=>by simp[o8]) (fun r _=>by simp only[o8,(om:¬j=i),aI,aH];grind) (fun c r _ _ a b=>by simp[o8,a,b])
  have t:o8 C i j D.2.1 D.2.2 x y j i=0:=by
   simp only[o8,(om:¬j=i),aI,aH];rw[q,s];grind
  have red:∀c r,GF (GF (o8 C i j D.2.1 D.2.2 x y) i i (M i)) j i (M i) c r=if (c=i∨c=j)/\i<=r then o8 C i j D.2.1 D.2.2 x y c r%M i else o8 C i j D.2.1 D.2.2 x y c r:=by
   intro c r;unfold GF;by_cases a:c=i
   .have:¬c=j:=om
    by_cases b:i<=r
    .simp[a,b,(om:¬i=j)]
    .simp[b]
   .by_cases z:c=j
    .by_cases b:i<=r
     .simp[z,b,(om:¬j=i)]
     .simp[b]
    .simp[a,z]
  refine⟨E.red m om (fun c r=>if c=i∨c=j then -(o8 C i j D.2.1 D.2.2 x y c r/M i)else 0) (fun c r A g=>?_),fun c r A k g=>?_,?_,fun c r a b=>?_⟩
  .rw[red];by_cases a:c=i∨c=j
   .by_cases b:i<=r
    .rw[aj ⟨a,b⟩,aj b];simp only[a,aH];exact uH _ _
    .rw[ah (fun e=>b e.2),ah b];omega
   .rw[ah (fun e=>a e.1)];simp[a]
  .rw[red];by_cases a:c=i∨c=j
   .rw[aj ⟨a,k⟩];exact⟨aW _ om,aS _ o⟩
   .rw[ah (fun e=>a e.1)];have:o8 C i j D.2.1 D.2.2 x y c r=C c r:=by
     simp only[o8];rw[ah (fun e=>a (a6 e)),ah (fun e=>a (aQ e))]
    rw[this];exact l c r A k g
  .rw[red,aj ⟨aQ rfl,ag _⟩,t];simp
  .rw[red,ah (fun e=>by rcases e.1 with e|e<;>contradiction)]
   simp[o8,a,b]
def HI.first(a:TL N (eU N N w) d M):HI N (eU N N w) d M 0 (fun c r=>w r c%M 0) :=
 HI.init.red a om (fun c r=>-(w r c/M 0)) (fun c r _ _=>by simp only[lq,aH];exact uH _ _)
def pA(C:az)(i t:Nat)(p a:Int):az:=fun c r=>if c=i then(if r=i then p else a*C i r)else if c<t then C c r-C c i/p*(if r=i then p else a*C i r)else C c r
def Q0(g:TL N L d M){i:Nat}{C:az}(h:HI N L d M i C)(k:i<N)(n:∀j,i<j->j<N->C j i=0){p a b:Int}(l:0<p)(o:p=a*C i i+b*M i)(q:p∣C i i)(s:p∣M i) :
  HI N L d M (i+1) (pA C i i p a)/\M i/p=M (i+1):=by
 have m:=h.pivot_eq g k n l o q s;refine⟨h.pivot g k n l o q s (fun c=>C c i/p) (fun r _=>by simp[pA]) (fun c r f _=>?_) (fun c r t _ _=>?_) (fun c f=>?_),?_⟩
 .simp only[pA,(om:¬c=i),f,aI,aH]
 .simp only[pA,(om:¬c=i),(om:¬c<i),aI]
 .simp only[pA,(om:¬c=i),f,aI,aH]
  have:=uH (C c i) p;have e:C c i-C c i/p*p=C c i%p:=by rw[this,mU,bU];omega
  rw[e];exact⟨aW _ om,aS _ l⟩
 .rw[g.step i k,<-m];exact cn _ om
def QW(a:TL N L d M){i:Nat}{C:az}(h:HI N L d M i C)(b:i<=N):HI N L d M i (fun c r=>if i<=r then C c r%M i else C c r) :=
 h.red a b (fun c r=>-(C c r/M i)) (fun c r _ _=>by
  by_cases e:i<=r
  .rw[aj e,aj e];exact uH _ _
  .rw[ah e,ah e];omega)

def yI(N m K k:Nat)(A:az)(ρ:Nat->Nat)(H:N<=100)(I:K<=100)(hρ:∀i,i<K->ρ i<m)(B:∀c r,c<N->r<m->nb (A c r) k)(J:k<=1000000):MF 234 [aP N m A,aK K (fun i=>ρ i)] K N (fun i j=>A j (ρ i)):=by
 refine MF.of ?_;refine jg func234 ntmps234 results234 ?_;simp -dsimp only[go_sem,aP,bn,aK]
 repeat refine an ?_
 refine ax.intro fun bc fc=>?_;simp only[go_sem];refine aC (fun O S'=>∃j:Nat,j<=K/\O 0=aP N m A/\O 5=ϑ bc 0 K/\O 12=aK K (fun i=>ρ i)/\O 13=ι K/\O 14=ι j/\∃g',fv 59 50 2 St.none S' bc g' K N j (fun a i=>ϱ (A i (ρ a)))) (fun O S=>K-bO (O 14)) ?_ ?_
 .simp only[go_sem,aP,bn,aK];exact⟨0,om,rfl,fun _=>0,fv.init fc (fun _ _=>rfl) _ _⟩
 .rintro O S' ⟨j,L,p,q,d,f,g,g',b⟩;by_cases h:j<K
  .obtain⟨w,o,s⟩:=id b.outer;simp -dsimp only[*,go_sem,aa,aP,bn,aK]
   repeat refine an ?_
   refine ax.intro fun bd fd=>?_;have C:bc≠bd:=aY.fresh b.outer fd;simp only[*,go_sem];have l:=b.push dc fd o (fun _=>ϱ 0)
   generalize t:(fun a=>if a=j then bd else g' a)=gg at l
   refine aC (fun O S'=>∃i:Nat,i<=N/\O 0=aP N m A/\O 5=ϑ bc 0 K/\O 6=ι j/\O 7=ι (ρ j)/\O 12=aK K (fun i=>ρ i)/\O 13=ι K/\O 14=ι j/\O 26=ι N/\O 27=ι i/\fv 59 50 2 St.none S' bc gg K N (j+1) (fun a c=>ϱ (if a=j/\i<=c then 0 else A c (ρ a)))) (fun O S=>N-bO (O 27)) ?_ ?_
   .simp only[*,go_sem,aP,bn,aK];refine⟨0,om,rfl,l.congr fun a c _ _=>?_⟩
    by_cases e:a=j
    .simp[e]
    .simp[e]
   .clear p q d f g b l o s t;rintro O S' ⟨i,M,p,q,D,E,d,f,g,u,v,b⟩;by_cases n:i<N
    .obtain⟨w,o,s⟩:=id b.outer;obtain⟨P,x,Q⟩:=id (b.row j om);have F:w j=ϕ (gg j) 0 N:=(s j h).trans (aj om);have y:=hρ j h;simp -dsimp only[*,go_sem,aP,bn,aK];refine aN 14 kr ?_
     simp only[go_sem,aa,p,q,D,E,d,f,g,u,v,h,n,o,F,x,aP,bn,y,aK,aF (om:i<1000000),bO]
     refine⟨_,(sd (B i (ρ j) n y) om).pure',trivial,⟨i+1,om,rfl,(b.put dc (om:j<j+1) x i (ϱ (A i (ρ j)))).congr fun a c _ _=>?_⟩,om⟩
     by_cases e:a=j/\c=i
     .obtain⟨rfl,rfl⟩:=e;rw[aj ⟨rfl,rfl⟩,ah om]
     .rw[ah e];congr 1;by_cases z:a=j/\i<=c
      .rw[aj z,aj om]
      .rw[ah z,ah om]
    .simp only[*,go_sem,aF (om:j<1000000),bO]
     exact⟨⟨j+1,om,rfl,rfl,rfl,gg,b.congr fun a c _ R=>by rw[ah om]⟩,om⟩
  .obtain rfl:j=K:=om
   have G:=b.mat (A:=fun i j=>A j (ρ i)) (fun _ _ _ _=>rfl);simp only[*,go_sem,aa];exact⟨bc,rfl,g',G.1⟩

def MFE(f:Nat)(args:List AV)(n m:Nat)(P:az->Prop):Prop:=∀S args',eM S args' args->cI f args' S (fun r S'=>∃b g A,r=ϑ b 0 n/\P A/\iW S S' b g n m A)
def MFE.of{P:az->Prop}(h:cI f args St.none (fun r S'=>∃b g A,r=ϑ b 0 n/\P A/\dr S' b g n m A)):MFE f args n m P:=fun S args' d=>by
 have i:cI f args St.none (fun r S'=>∃b g A,r=ϑ b 0 n/\P A/\dr S' b g n m A/\Gl S'):=h.less fun r S' ⟨b,g,A,e,c,a⟩=>⟨eN S' b g n,iT S' b g n,b,g,A,e,c,a.only.1,a.only.2⟩;refine(i.frame d ?_).mono ?_
 .rintro r S1 ⟨b,g,A,rfl,_,_,j⟩;exact⟨rfl,j⟩
 .rintro r S' ⟨S1,⟨b,g,A,rfl,c,a,_⟩,k,rfl⟩;exact⟨b,g,A,rfl,c,a.join k⟩
def eM.two(h:VA S x x')(a:VA S y y'):eM S [x,y] [x',y']:=⟨h,a,trivial⟩
def so{c:Code}(P:Tm->St->Prop)(a:(∀O S,P O S->Aw c Q O S)->G)(b:∀O S,P O S->Aw c Q O S):G:=a b
structure pe(S:St)(b b7 N:Nat)(z:Int)(C:az):Prop where
 ex:∃g,dr S b g N N C/\∀a,a<N->g a≠b7
 var:cS S b7 50 2 (ϱ z)
def pe.ne(h:pe S b b7 N z C):b7≠b:=by
 obtain⟨g,a,_⟩:=h.ex;obtain⟨x,k,_⟩:=h.var;obtain⟨y,l,_⟩:=a.outer;rintro rfl;rw[k]at l;cases l
def pe.next(h:pe S b b7 N z C)(c:∀a,a<N->g a≠b7)(e:dr S' b g' N N C')(d:ni S S' b g g' N):pe S' b b7 N z C':=by
 obtain⟨x,k,_⟩:=id h.var;exact⟨⟨g',e,d.ne k c⟩,d.var h.var h.ne c⟩
def pe.congr(h:pe S b b7 N z C)(a:∀c r,c<N->r<N->C c r=C' c r):pe S b b7 N z C':=by
 obtain⟨g,d,e⟩:=h.ex;exact⟨⟨g,d.congr a,e⟩,h.var⟩
def Rng(N i:Nat)(z:Int)(C:az):Prop:=∀c r,c<N->i<=r->r<N->0<=C c r/\C c r<z
def T2(S:St)(b b7 N:Nat)(L:gP->Prop)(d M:Nat->Int)(i:Nat):Prop:=∃C,pe S b b7 N (M i) C/\HI N L d M i C/\Rng N i (M i) C
def T3(S:St)(b b7 N:Nat)(L:gP->Prop)(d M:Nat->Int)(i j:Nat):Prop:=∃C,pe S b b7 N (M i) C/\HI N L d M i C/\Rng N i (M i) C/\∀k,i<k->k<j->C k i=0
def pe.other(h:pe S b b7 N z C){e:Nat}(c:S e=ae)(X:eA):pe (S.upd e X) b b7 N z C:=by
 obtain⟨g,d,f⟩:=h.ex;exact⟨⟨g,d.upd (aY.fresh d.outer c) (fun a i=>aY.fresh (d.row a i) c) _,f⟩,h.var.upd (h.var.fresh c) _⟩
def pe.upd3(h:pe S b b7 N z C){e n:Nat}{x:Nat->AV}(c:aY S e 3 1 n x)(X:eA):pe (S.upd e X) b b7 N z C:=by
 obtain⟨g,d,f⟩:=h.ex;refine⟨⟨g,d.upd (aY.ne d.outer c dc) (fun a i=>aY.ne (d.row a i) c dc) _,f⟩,h.var.upd ?_ _⟩
 obtain⟨y,k,_⟩:=h.var;obtain⟨y',l,_⟩:=c;rintro rfl;rw[k]at l;cases l
def FR(P:St->Prop)(a:P S)(h:∀T,P T->cI f args T K):cI f args S K:=h S a
structure qU(S:St)(b b7 b11 N:Nat)(z p:Int)(g:Nat->Nat)(C:az):Prop where
 mat:dr S b g N N C
 h7:∀a,a<N->g a≠b7
 h11:∀a,a<N->g a≠b11
 v7:cS S b7 50 2 (ϱ z)
 v11:cS S b11 50 2 (ϱ p)
def cS.ext{z:AV}(h:cS S b ty es z)(a:dh S S'):cS S' b ty es z:=by
 obtain⟨x,c,d⟩:=h;exact⟨x,a _ _ c,d⟩
def qU.n7(h:qU S b b7 b11 N z p g C):b7≠b/\b11≠b:=by
 obtain⟨x,k,_⟩:=h.v7;obtain⟨x',k',_⟩:=h.v11;obtain⟨y,l,_⟩:=h.mat.outer;refine⟨?_,?_⟩<;>rintro rfl
 .rw[k]at l;cases l
 .rw[k']at l;cases l
def qU.repl(h:qU S b b7 b11 N z p g C){j c:Nat}{v:Nat->Int}(f:dh S S1)(i:S c=ae)(l:iY S1 c N v){k:Nat->AV}(m:S1 b=some ⟨59,1,N,k⟩) :
  qU (S1.upd b ⟨59,1,N,aL k j (ϕ c 0 N)⟩) b b7 b11 N z p (fun a=>if a=j then c else g a) (fun a r=>if a=j then v r else C a r):=by
 have n:=h.mat.ext f;refine⟨n.repl l (fun a d=>aY.fresh (h.mat.row a d) i) m,fun a d=>?_,fun a d=>?_,(h.v7.ext f).upd h.n7.1 _,(h.v11.ext f).upd h.n7.2 _⟩
 .by_cases e:a=j
  .simp only[e,aH];exact ai (h.v7.fresh i)
  .simp only[e,aI];exact h.h7 a d
 .by_cases e:a=j
  .simp only[e,aH];exact ai (h.v11.fresh i)
  .simp only[e,aI];exact h.h11 a d
def qU.set(h:qU S b b7 b11 N z p g C){i j:Nat}{q:Int}{g':Nat->AV}(a:i<N)(c:S (g i)=some ⟨50,2,N,g'⟩):qU (S.upd (g i) ⟨50,2,N,aL g' j (ϱ q)⟩) b b7 b11 N z p g (dU C i j q) :=
 ⟨h.mat.set a c,h.h7,h.h11,h.v7.upd (ai (h.h7 i a)) _,h.v11.upd (ai (h.h11 i a)) _⟩
def qU.congr(h:qU S b b7 b11 N z p g C)(a:∀c r,c<N->r<N->C c r=C' c r):qU S b b7 b11 N z p g C':=⟨h.mat.congr a,h.h7,h.h11,h.v7,h.v11⟩
def T4(S:St)(b b7 b11 N:Nat)(z p:Int)(C:az):Prop:=∃g,qU S b b7 b11 N z p g C
def qU.upd(h:qU S b b7 b11 N z p g C){e:Nat}(c:b≠e)(d:∀a,a<N->g a≠e)(f:b7≠e)(i:b11≠e)(X:eA):qU (S.upd e X) b b7 b11 N z p g C :=
 ⟨h.mat.upd c d _,h.h7,h.h11,h.v7.upd f _,h.v11.upd i _⟩
def IR(b:∀c r,c<N->r<N->0<=C c r/\C c r<PB)(j:nb p KB)(l:nb a KB)(g:i<N)(d:0<=p)(t:Nat):∀c r,c<N->r<N->nb (pA C i t p a c r) (3*KB+1):=by
 have m:=mR;intro c r e f;have h:nb (if r=i then p else a*C i r) (KB+KB):=by
  split
  .exact j.mono om
  .exact l.mul (lv (b i r g f))
 unfold pA;split
 .exact h.mono om
 .split
  .have k:=b c i e g;have nq:nb (C c i/p) KB:=by
    have:=oT p k.1;have:=mC k.1 d;exact Gf om
   have:=((lv (b c r e f)).mono (om:KB<=KB+(KB+KB))).sub (nq.mul h)
   exact this.mono om
  .exact(lv (b c r e f)).mono om
def zA(N:Nat)(w:az)(h1:1<=N)(hN:N<=16)(hw:∀i j,i<N->j<N->nb (w i j) 1000)(hd:det N w≠0)(hdb:(det N w).natAbs<PB) :
  MFE 260 [aP N N w,ϱ (det N w)] N N (fun H=>∃d M,TL N (eU N N w) d M/\M 0=((det N w).natAbs:Int)/\HI N (eU N N w) d M N (fun j r=>H r j)):=by
 have hKB:=mR;obtain⟨d,M,L,hM0⟩:=TL.of_det hd;generalize det N w=D at *;refine MFE.of ?_;refine jg func260 ntmps260 results260 ?_;have hp0:0<N:=om
 have hpz:(0:Int)<(N:Int):=om
 simp -dsimp only[go_sem,aa,aP,bn];refine ax.intro fun b3 f3=>?_;refine(uP N N w h1 hN hN _ _ (cD _ _)).mono ?_;rintro _ S1 ⟨b,g,rfl,s,hE,hb,hg⟩;have hv3:cS S1 b3 50 2 (ϱ D):=by
  obtain⟨x,k1,k2⟩:=cS.new (S:=St.none) (b:=b3) (ty:=50) (es:=2) (g:=fun _=>ϱ D) rfl;exact⟨x,hE _ _ k1,k2⟩
 obtain⟨g3,u3,v3⟩:=id hv3;simp -dsimp only[go_sem,aa,u3];refine ax.intro fun l f7=>?_;have n37:b3≠l:=hv3.fresh f7;have nb7:b≠l:=aY.fresh s.outer f7;have ng7:∀a,a<N->g a≠l:=fun a G=>aY.fresh (s.row a G) f7;have nD:nb D KB:=Gf om;simp -dsimp only[*,go_sem,aa];refine(ka nD om).call ?_;apply so (fun O S=>O 5=ι N/\O 6=ϑ b 0 N/\O 7=ϖ l 0/\O 31=ι N/\O 32=ι 0/\pe S b l N (M 0) (fun c r=>w r c))
 .intro key;by_cases hneg:D<0
  .simp -dsimp only[*,go_sem,aa,show decide (D.sign<0)=true by rw[eI hneg];rfl]
   refine(td nD om).call ?_;simp only[go_sem,aa,v3];refine key _ _ ?_;simp only[go_sem];refine⟨⟨g,?_,ng7⟩,?_⟩
   .repeat' first|exact s|refine dr.upd ?_ (by assumption) (by assumption) _
   .rw[(om:M 0=-D)]
    simp only[cS.at_hit,aL,aH]
  .simp only[*,go_sem,aa,show decide (D.sign<0)=false by rw[cX om];rfl]
   refine key _ _ ?_;simp only[go_sem];refine⟨⟨g,?_,ng7⟩,?_⟩
   .repeat' first|exact s|refine dr.upd ?_ (by assumption) (by assumption) _
   .rw[(om:M 0=D)]
    simp only[cS.at_hit,aL,aH]
 clear u3 v3 hv3 n37 nb7 ng7 s hE hb hg;have hM0p:=L.M_pos N 0 om om;have nM:∀i,i<=N->nb (M i) KB:=fun i hi=>by
  have:=L.M_le i hi;have:=L.M_pos N i om hi;exact Gf om
 rintro O S ⟨A,m,z,P,Q,h⟩;refine aC (fun O S=>∃j:Nat,j<=N/\O 5=ι N/\O 6=ϑ b 0 N/\O 7=ϖ l 0/\O 31=ι N/\O 32=ι j/\pe S b l N (M 0) (fun c r=>if c<j then w r c%M 0 else w r c)) (fun O S=>N-bO (O 32)) ?_ ?_
 .exact⟨0,om,A,m,z,P,Q,h.congr fun c r _ _=>by simp⟩
 clear A m z P Q h;rintro O S ⟨j,hj,A,m,z,P,Q,h⟩;by_cases f:j<N
 .obtain⟨g7,U,V⟩:=id h.var;obtain⟨g,s,hg⟩:=h.ex;simp -dsimp only[go_sem,aa,A,m,z,P,Q,f,U,V];refine(oB S b g N N j 0 _ (M 0) f om om hM0p 1000 ((nM 0 om).mono om) om (fun r W=>?_) s).mono ?_
  .rw[ah om];exact hw r j W f
  rintro _ S1 ⟨I,X⟩;simp only[go_sem,A,m,z,P,Q,aF (om:j<1000000),bO]
  refine⟨⟨j+1,om,rfl,(h.next hg I X).congr fun c r _ _=>?_⟩,om⟩
  by_cases e:c=j
  .simp[e]
  .by_cases E:c<j
   .simp[e,E,(om:c<j+1)]
   .simp[e,E,(om:¬c<j+1)]
 obtain rfl:j=N:=om
 simp only[*,go_sem,aa];have B:T2 S b l j (eU j j w) d M 0:=⟨_,h.congr (C':=fun c r=>w r c%M 0) fun c r Y _=>by simp[Y],HI.first L,fun c r _ _ _=>⟨aW _ om,aS _ hM0p⟩⟩
 refine aC (fun O S=>∃i:Nat,i<=j/\O 5=ι j/\O 6=ϑ b 0 j/\O 7=ϖ l 0/\O 40=ι j/\O 41=ι i/\T2 S b l j (eU j j w) d M i) (fun O S=>j-bO (O 41)) ?_ ?_
 .simp only[*,go_sem];exact⟨0,om,rfl,B⟩
 clear A m z P Q h B f hj hw;generalize hNN:j=N at *;clear hNN;rintro O S ⟨i,hi,A,m,z,o,p,B⟩;by_cases f:i<N
 .simp only[*,go_sem,aF (om:i<1000000)]
  have hMi:=L.M_pos N i om hi;refine aC (fun O S=>∃j:Nat,i+1<=j/\j<=N/\O 5=ι N/\O 6=ϑ b 0 N/\O 7=ϖ l 0/\O 9=ι i/\O 10=ι j/\O 40=ι N/\O 41=ι i/\T3 S b l N (eU N N w) d M i j) (fun O S=>N-bO (O 10)) ?_ ?_
  .simp only[*,go_sem];obtain⟨C,c1,c2,c3⟩:=B;exact⟨i+1,om,om,rfl,C,c1,c2,c3,fun k _ _=>om⟩
  clear A m z o p B;rintro O S ⟨j,hj1,hj2,A,m,z,K,e10,o,p,C,h,hH,hR,hZ⟩;have u:∀c r,c<N->r<N->0<=C c r/\C c r<PB:=fun c r Y W=>by
   have:=hH.rng L hi hR Y W;omega
  obtain⟨g7,U,V⟩:=id h.var;obtain⟨g,s,hg⟩:=h.ex;by_cases J:j<N
  .simp -dsimp only[*,go_sem,aa];refine(Hm S b g N N i j C (M i) om J f om hMi (nM i hi) u s).mono ?_;rintro _ S1 ⟨g',I,X⟩;have hcl:=Rx L hH (om:i<j) J hR
   simp only[*,go_sem,aF (om:j<1000000),bO]
   refine⟨⟨j+1,om,om,rfl,_,h.next hg I X,hcl.1,hcl.2.1,fun k hk1 hk2=>?_⟩,om⟩
   by_cases e:k=j
   .rw[e];exact hcl.2.2.1
   .rw[hcl.2.2.2 k i om e];exact hZ k hk1 om
  have hNj:N=j:=om
  subst hNj;clear J hj1 hj2;simp -dsimp only[*,go_sem,aa,cw];obtain⟨g1,u1,v1⟩:=id s.outer;obtain⟨g2,u2,v2⟩:=id (s.row i f);have x1:g1 i=ϕ (g i) 0 N:=v1 i f;have x2:g2 i=ϱ (C i i):=v2 i f;have kii:=hR i i f (ag _) f;have nMi:=nM i hi;have hMi2:M i<PB:=by have:=L.M_le i hi;omega
  have hbz:=AF (x:=C i i) (y:=M i) om om (aQ om);have b1:=DS (M i).toNat (C i i).toNat (M i).toNat (ag _);have b2:=DT (M i).toNat (C i i).toNat (M i).toNat (ag _);have b3:=AC (M i).toNat (C i i).toNat (M i).toNat (ag _) (aQ om);have b4:=MQ (M i).toNat (C i i).toNat (M i).toNat (ag _) om;generalize bz (C i i).toNat (M i).toNat=D at *;rw[c9 kii.1,c9 (a8 hMi)]at b1 b2;have nD1:nb D.1 KB:=Gf om;have nD2:nb D.2.1 KB:=Gf om;refine iz 16 [[11,12],[12],[]] kr ?_
  simp -dsimp only[*,go_sem,aa];refine⟨_,hbz.pure',?_⟩;simp -dsimp only[go_sem];refine ax.intro fun v f11=>?_
  try simp -dsimp only[go_sem]
  refine ax.intro fun b12 f12=>?_;have n12_11:=(af f12).1
  try simp -dsimp only[go_sem]
  refine ax.intro fun b13 f13=>?_;have n13_12:=(af f13).1;have n13_11:=(af (af f13).2).1;have s12:=(af f12).2;have s13:=(af (af f13).2).2;have w11:b≠v:=aY.fresh s.outer f11;have w12:b≠b12:=aY.fresh s.outer s12;have w13:b≠b13:=aY.fresh s.outer s13;have y11:∀a,a<N->g a≠v:=fun a G=>aY.fresh (s.row a G) f11;have y12:∀a,a<N->g a≠b12:=fun a G=>aY.fresh (s.row a G) s12;have y13:∀a,a<N->g a≠b13:=fun a G=>aY.fresh (s.row a G) s13;have z11:l≠v:=h.var.fresh f11;have z12:l≠b12:=h.var.fresh s12;have z13:l≠b13:=h.var.fresh s13;simp -dsimp only[go_sem,m,K,nn n12_11,nn n13_11,nn n13_12,aL];refine FR (fun T=>qU T b l v N (M i) D.1 g C/\cS T b12 50 2 (ϱ D.2.1)) ?_ ?_
  .refine⟨⟨?_,hg,y11,?_,?_⟩,?_⟩
   .repeat' first|exact s|refine dr.upd ?_ (by assumption) (by assumption) _
   all_goals simp only[cS.at_hit,cS.at_miss,yL,ia,aL,aH,z11,z12,z13,ai n12_11,ai n13_11,ai n13_12]
   exact h.var
  rintro T ⟨B,hT12⟩;refine(og N N KB i i C D.2.1 0 f f om (fun c r Y W=>lv (u c r Y W)) nD2 (nb.zero KB) om _ _ (eM.first B.mat.vr.va)).mono ?_
  rintro _ S1 ⟨c,rfl,hI,hE,hn⟩;have I:=B.mat.ext hE;obtain⟨g4,u4,v4⟩:=id I.outer;obtain⟨g5,u5,v5⟩:=id hI;have hcg:∀a,a<N->g a≠c:=fun a G=>aY.fresh (B.mat.row a G) hn;have hcb:c≠b:=ai (aY.fresh B.mat.outer hn);simp -dsimp only[go_sem,aa,m,K,u4,f,dL];obtain⟨g6,u6,x6⟩:=id (B.v11.ext hE);have n11c:v≠c:=B.v11.fresh hn;refine aN 7 kr ?_
  simp only[go_sem,aa,m,K,u5,u6,x6,B.n7.2,hcb,f,dL];have hV1:=B.repl (j:=i) hE hn hI u4;have hV2:=hV1.set (i:=i) (j:=i) (q:=D.1) f (g':=g5) (by simp only[aH];rw[aE hcb];exact u5)
  simp only[aH]at hV2;have hV3:=hV2.congr (C':=pA C i 0 D.1 D.2.1) (fun a r _ _=>by
   simp only[dU,pA,xg,aI];by_cases e:a=i
   .by_cases E:r=i
    .simp[e,E]
    .simp[e,E]
   .simp[e])
  have hV4:T4 ((S1.upd b { ty:=59,es:=1,n:=N,g:=aL g4 i (ϕ c 0 N) }).upd c { ty:=50,es:=2,n:=N,g:=aL g5 i (ϱ D.1) }) b l v N (M i) D.1 (pA C i 0 D.1 D.2.1):=⟨_,hV3⟩;refine aC (fun O S=>∃t:Nat,t<=i/\O 5=ι N/\O 6=ϑ b 0 N/\O 7=ϖ l 0/\O 9=ι i/\O 11=ϖ v 0/\O 40=ι N/\O 41=ι i/\O 85=ι i/\O 86=ι t/\T4 S b l v N (M i) D.1 (pA C i t D.1 D.2.1)) (fun O S=>i-bO (O 86)) ?_ ?_
  .simp only[go_sem,A,m,z,K,o,p];exact⟨0,om,rfl,hV4⟩
  clear hV1 hV2 hV3 hV4 u4 u5 u6 x6 n11c I hcg hcb v4 v5 hI hE hn B hT12 u1 u2 x1 x2 U V A m z K e10 o p s hg h;clear f11 f12 f13 s12 s13 w11 w12 w13 y11 y12 y13 z11 z12 z13 n12_11 n13_12 n13_11;rintro O S2 ⟨t,ht,A,m,z,K,Z,o,p,e85,e86,g',F⟩;by_cases htt:t<i
  .obtain⟨g1,u1,v1⟩:=id F.mat.outer;have R:t<N:=om
   obtain⟨g2,u2,v2⟩:=id (F.mat.row t R);obtain⟨g6,u6,x6⟩:=id F.v11;have x1:g1 t=ϕ (g' t) 0 N:=v1 t R;have x2:g2 i=ϱ (C t i):=(v2 i f).trans (by simp[pA,(om:¬t=i)])
   have kti:=u t i R f;simp -dsimp only[go_sem,aa,z,Z,e85,e86,htt];refine iz 15 [[11,12],[12],[]] kr ?_
   simp -dsimp only[go_sem,aa,m,K,Z,u1,x1,u2,x2,u6,x6,f,R];refine⟨_,(ft (lv kti) nD1 om om).pure',?_⟩;simp -dsimp only[go_sem];refine ax.intro fun b15 f15=>?_
   try simp -dsimp only[go_sem]
   refine ax.intro fun b16 f16=>?_;have n16_15:=(af f16).1;simp -dsimp only[go_sem,nn n16_15];refine k9 (fun T=>qU T b l v N (M i) D.1 g' (pA C i t D.1 D.2.1)/\cS T b15 50 2 (ϱ (C t i/D.1))) ?_ ?_
   .have s16:=(af f16).2;have w15:b≠b15:=aY.fresh F.mat.outer f15;have w16:b≠b16:=aY.fresh F.mat.outer s16;have y15:∀a,a<N->g' a≠b15:=fun a G=>aY.fresh (F.mat.row a G) f15;have y16:∀a,a<N->g' a≠b16:=fun a G=>aY.fresh (F.mat.row a G) s16;have z1:l≠b15:=F.v7.fresh f15;have z2:l≠b16:=F.v7.fresh s16;have z3:v≠b15:=F.v11.fresh f15;have z4:v≠b16:=F.v11.fresh s16;refine⟨?_,?_⟩
    .repeat' first|exact F|refine qU.upd ?_ (by assumption) (by assumption) (by assumption) (by assumption) _
    .simp only[cS.at_hit,cS.at_miss,yL,ia,aL,aH,ai n16_15]
   rintro T ⟨B,hT15⟩;obtain⟨g7,U,V⟩:=id hT15;refine eO 8 [[0,1],[],[]] kr ?_
   simp -dsimp only[go_sem,aa,m,K,U,V];have nq:nb (C t i/D.1) KB:=by
    have:=oT D.1 kti.1;have:=mC kti.1 (a8 b3.1);exact Gf om
   have nP:=IR u nD1 nD2 f (a8 b3.1) t;refine⟨_,(fS dc dc).pure',_,(td nq om).pure',?_⟩
   refine(og N N (3*KB+1) t i _ 1 (-(C t i/D.1)) R f om nP (nb.one om) (nq.neg.mono om) om _ _ (eM.first B.mat.vr.va)).mono ?_
   rintro _ S3 ⟨c,rfl,hI,hE,hn⟩;obtain⟨g8,u8,v8⟩:=id (B.mat.ext hE).outer;simp only[go_sem,aa,A,m,z,K,Z,o,p,e85,e86,u8,R,aF (om:t<1000000),bO]
   refine⟨⟨t+1,om,rfl,_,(B.repl (j:=t) hE hn hI u8).congr fun a r _ _=>?_⟩,om⟩
   by_cases e:a=t
   .subst e;simp only[aH,pA,(om:¬a=i),cw,Gi,aI]
    rw[cU,sF];rfl
   .simp only[e,aI,pA];by_cases E:a=i
    .simp[E]
    .by_cases e3:a<t
     .simp[E,e3,(om:a<t+1)]
     .simp[E,e3,(om:¬a<t+1)]
  have hti:t=i:=om
  subst hti;obtain⟨hP1,hP2⟩:=Q0 L hH f hZ b3.1 b1 b2.1 b2.2;obtain⟨g7,U,V⟩:=id F.v7;obtain⟨g8,u8,x8⟩:=id F.v11;have nP:=IR u nD1 nD2 f (a8 b3.1) t;simp -dsimp only[go_sem,aa,z,Z,e85,e86,cw,U,V,u8,x8];refine(ft nMi nD1 om om).call ?_;rw[hP2];simp only[go_sem,aa,A,z,U,V,x8];have hM1:=L.M_pos N (t+1) om om;have hT5:pe (S2.upd l ⟨50,2,1,aL g7 0 (ϱ (M (t+1)))⟩) b l N (M (t+1)) (pA C t t D.1 D.2.1):=⟨⟨g',F.mat.upd (ai F.n7.1) F.h7 _,F.h7⟩,cS.set⟩;refine aC (fun O S=>∃j:Nat,j<=N/\O 5=ι N/\O 6=ϑ b 0 N/\O 7=ϖ l 0/\O 9=ι t/\O 40=ι N/\O 41=ι t/\O 120=ι N/\O 121=ι j/\pe S b l N (M (t+1)) (fun c r=>if c<j/\t+1<=r then pA C t t D.1 D.2.1 c r%M (t+1)else pA C t t D.1 D.2.1 c r)) (fun O S=>N-bO (O 121)) ?_ ?_
  .simp only[go_sem,A,m,z,K,o,p];exact⟨0,om,rfl,hT5.congr fun c r _ _=>by simp⟩
  clear hT5 U V u8 x8 F A m z K Z o p e85 e86;rintro O S3 ⟨j,hj,A,m,z,K,o,p,e120,e121,h⟩;by_cases J:j<N
  .obtain⟨g7,U,V⟩:=id h.var;obtain⟨g,s,hg⟩:=h.ex;simp -dsimp only[go_sem,aa,A,m,z,K,o,p,e120,e121,J,U,V,aF (om:t<1000000)]
   refine(oB S3 b g N N j (t+1) _ (M (t+1)) J om om hM1 (3*KB+1) ((nM (t+1) om).mono om) om (fun r W=>?_) s).mono ?_
   .rw[ah om];exact nP j r J W
   rintro _ S4 ⟨I,X⟩;simp only[go_sem,A,m,z,K,o,p,e120,e121,aF (om:j<1000000),bO]
   refine⟨⟨j+1,om,rfl,(h.next hg I X).congr fun c r _ _=>?_⟩,om⟩
   by_cases E:t+1<=r
   .by_cases e:c=j
    .rw[aj ⟨e,E⟩,ah om,aj om]
    .by_cases e3:c<j
     .rw[ah om,aj ⟨e3,E⟩,aj om]
     .rw[ah om,ah om,ah om]
   .rw[ah om,ah om,ah om]
  have hNj:N=j:=om
  subst hNj;simp only[*,go_sem,aa,cw,aF (om:t<1000000),bO]
  refine⟨⟨t+1,om,rfl,_,h.congr (C':=fun c r=>if t+1<=r then pA C t t D.1 D.2.1 c r%M (t+1)else pA C t t D.1 D.2.1 c r) fun c r Y _=>by
   by_cases E:t+1<=r
   .rw[aj ⟨Y,E⟩,aj E]
   .rw[ah om,ah E],QW L hP1 om,fun c r _ h1 _=>?_⟩,om⟩
  dsimp only;rw[aj h1];exact⟨aW _ om,aS _ hM1⟩
 .have hNi:N=i:=om
  subst hNi;obtain⟨C,h,hH,hR⟩:=B;simp -dsimp only[*,go_sem,cw]
  repeat refine an ?_
  refine ax.intro fun b19 f19=>?_;simp only[go_sem];have u:∀c r,c<N->r<N->0<=C c r/\C c r<PB:=fun c r Y W=>by
   have:=hH.rng L (ag _) hR Y W;omega
  refine aC (fun O S=>∃k:Nat,k<=N/\O 6=ϑ b 0 N/\O 19=ϑ b19 0 N/\O 135=ι N/\O 136=ι k/\pe S b l N (M N) C/\aY S b19 3 1 N (fun a=>ι (if a<k then(a:Int)else 0))) (fun O S=>N-bO (O 136)) ?_ ?_
  .simp only[go_sem,m];exact⟨0,om,rfl,h.other f19 _,aY.here fun a _=>by simp⟩
  clear A m z o p h f19;rintro O S ⟨k,hk,m,e19,e135,e136,h,hH19⟩;by_cases hkt:k<N
  .obtain⟨g1,u1,v1⟩:=id hH19;simp only[*,go_sem,aa,aF (om:k<1000000),bO]
   refine⟨⟨k+1,om,rfl,h.upd3 hH19 _,aY.here fun a G=>?_⟩,om⟩
   simp only[aL];by_cases e:a=k
   .simp[e]
   .rw[ah e,v1 a G];by_cases E:a<k
    .simp[E,(om:a<k+1)]
    .simp[E,(om:¬a<k+1)]
  have hNk:N=k:=om
  subst hNk;obtain⟨g,s,hg⟩:=h.ex;simp -dsimp only[*,go_sem,aa,cw];refine(yI N N N KB C (fun i=>i) om om (fun i hi=>hi) (fun c r Y W=>lv (u c r Y W)) om _ _ (eM.two s.vr.va (VR.sl hH19 om (fun a G=>by rw[aM,aj G];exact VR.mf rfl)).va)).mono ?_
  rintro _ S5 ⟨b',g',rfl,hN'⟩;simp only[go_sem];exact⟨b',rfl,g',_,⟨d,M,L,hM0,hH⟩,hN'.1⟩

def ln(N:Nat)(C U:az):az:=fun j r=>ap N fun a=>C a r*U a j
def EF(N:Nat)(C U:az)(j r t:Nat):Nat->Nat->AV:=fun a c=>ϱ (if a=j/\r<=c then(if c=r then ap t (fun k=>C k r*U k j)else 0)else ln N C U a c)
def FA{c e ty':Nat}(a:S b=some ⟨ty,es,N,g0⟩)(d:S c=some ⟨ty',es,N,g1⟩)(f:dQ t=some e)(g:es=cg e)(h:0<N)(i:∀j,j<N->dY es (g1 j))
  (k:K (ι N) (S.upd b ⟨ty,es,N,fun j=>if 0<=j/\j<0+N then g1 (0+(j-0))else g0 j⟩)):AM t (.sl es b 0 N) (.sl es c 0 N) S K:=by
 unfold AM yb;rw[f];have l:DF S (.sl es c 0 N)=some (es,N,fun j=>g1 (0+j),some c):=by simp[DF,d]
 rw[l];simp only[a];exact⟨g,trivial,trivial,om,trivial,h,fun j m=>by rw[aM];exact i j m,k⟩
def Gt(S0:St)(b bu:Nat)(g gu:Nat->Nat)(N R k:Nat)(C U:az)(h1:1<=N)(hN:N<=16)(hR:R<=100)(Y:∀a r,a<N->r<R->nb (C a r) k)(Z:∀a r,a<N->r<N->nb (U a r) k)(hk:k<=1000000)(y:dr S0 b g N R C)(z:dr S0 bu gu N N U) :
  cI 261 [ϑ b 0 N,ϑ bu 0 N] S0 (fun _ S'=>(∃g',dr S' b g' N R (ln N C U))/\iX b S0 S'):=by
 refine fC func261 rfl 75 ntmps261 kr sm ?_
 rw[jY,results261];simp -dsimp only[go_sem]
 repeat refine an ?_
 refine ax.intro fun bc fc=>?_;simp only[go_sem];refine aC (fun O S'=>∃j:Nat,j<=N/\O 0=ϑ b 0 N/\O 1=ϑ bu 0 N/\O 4=ϑ bc 0 N/\O 13=ι N/\O 14=ι j/\∃g',fv 59 50 2 S0 S' bc g' N R j (fun a r=>ϱ (ln N C U a r))) (fun O S=>N-bO (O 14)) ?_ ?_
 .simp only[go_sem];exact⟨0,om,rfl,fun _=>0,fv.init fc (fun _ _=>rfl) _ _⟩
 rintro O S' ⟨j,hj,A,B,D,n,o,g',d⟩;have q:dh S0 S':=d.ext;obtain⟨gg4,u,E⟩:=id d.outer;by_cases i:j<N
 .obtain⟨I,J,F⟩:=id (q.has y.outer);have x0:I j=ϕ (g j) 0 R:=F j i;simp -dsimp only[*,go_sem,aa]
  repeat refine an ?_
  refine ax.intro fun bd fd=>?_;have hdc:bc≠bd:=aY.fresh d.outer fd;simp only[*,go_sem,dL];have v:=d.push dc fd u (fun _=>ϱ 0)
  generalize hgg:(fun a=>if a=j then bd else g' a)=gg at v
  have hgj:gg j=bd:=by rw[<-hgg];simp
  refine aC (fun O S'=>∃r:Nat,r<=R/\O 0=ϑ b 0 N/\O 1=ϑ bu 0 N/\O 4=ϑ bc 0 N/\O 5=ι j/\O 13=ι N/\O 14=ι j/\O 30=ι R/\O 31=ι r/\fv 59 50 2 S0 S' bc gg N R (j+1) (EF N C U j r 0)) (fun O S=>R-bO (O 31)) ?_ ?_
  .simp only[*,go_sem];refine⟨0,om,rfl,v.congr fun a c _ _=>?_⟩
   unfold EF;by_cases e:a=j
   .simp[e,ap]
   .simp[e]
  clear v d q u E J F x0 A B D n o;rintro O S' ⟨r,hr,A,B,D,K,n,o,w,x,d⟩;by_cases p:r<R
  .simp only[*,go_sem];refine aC (fun O S'=>∃t:Nat,t<=N/\O 0=ϑ b 0 N/\O 1=ϑ bu 0 N/\O 4=ϑ bc 0 N/\O 5=ι j/\O 6=ι r/\O 13=ι N/\O 14=ι j/\O 30=ι R/\O 31=ι r/\O 35=ι N/\O 36=ι t/\fv 59 50 2 S0 S' bc gg N R (j+1) (EF N C U j r t)) (fun O S=>N-bO (O 36)) ?_ ?_
   .simp only[*,go_sem];exact⟨0,om,rfl,d⟩
   clear d A B D K n o w x;rintro O S' ⟨t,ht,A,B,D,K,e6,n,o,w,x,L,M,d⟩;by_cases l:t<N
   .have q:dh S0 S':=d.ext;obtain⟨I,J,F⟩:=id (q.has y.outer);obtain⟨g1,u1,v1⟩:=id (q.has (y.row t l));obtain⟨g2,u2,v2⟩:=id (q.has z.outer);obtain⟨g3,u3,v3⟩:=id (q.has (z.row t l));have x0:I t=ϕ (g t) 0 R:=F t l;have x1:g1 r=ϱ (C t r):=v1 r p;have x2:g2 t=ϕ (gu t) 0 N:=v2 t l;have x3:g3 j=ϱ (U t j):=v3 j i;have n1:=Y t r l p;have n2:=Z t j l i;simp -dsimp only[*,go_sem];refine aN 16 kr ?_
    simp -dsimp only[*,go_sem,aa];refine⟨_,(gL n1 n2 om).pure',?_⟩;refine ax.intro fun G P=>?_
    try simp -dsimp only[go_sem]
    refine k9 (fun T=>fv 59 50 2 S0 T bc gg N R (j+1) (EF N C U j r t)/\cS T G 50 2 (ϱ (C t r*U t j))/\(∀a,a<j+1->gg a≠G)/\bc≠G) ?_ ?_
    .have s8:=q.none P;have z1:bc≠G:=aY.fresh d.outer P;have z2:∀a,a<j+1->gg a≠G:=fun a m=>aY.fresh (d.row a m) P;refine⟨?_,?_,z2,z1⟩
     .repeat' first|exact d|refine fv.upd ?_ (by assumption) (by assumption) (by assumption) _
     .simp only[cS.at_hit,aL,aH]
    rintro T ⟨Q,V,hn8,hc8⟩;obtain⟨g4,u4,E⟩:=id Q.outer;obtain⟨g5,u5,v5⟩:=id (Q.row j om);obtain⟨g6,u6,x6⟩:=id V;have x4:g4 j=ϕ (gg j) 0 R:=(E j i).trans (aj om);have x5:g5 r=ϱ (ap t (fun k=>C k r*U k j)):=(v5 r p).trans (by simp[EF])
    refine aN 15 kr ?_
    simp only[go_sem,aa,A,B,D,K,e6,n,o,w,x,L,M,i,p,u4,x4,u5,x5,u6,x6,aF (om:t<1000000),bO]
    have hs:=me (f:=fun a=>C a r*U a j) (k:=k+k) t (fun a m=>(Y a r om p).mul (Z a j om i));have hp:=(n1.mul n2).mono (om:k+k<=k+k+t)
    refine⟨_,(l6 hs hp om).pure',trivial,⟨t+1,om,rfl,(Q.put dc (om:j<j+1) u5 r (ϱ (ap (t+1) (fun k=>C k r*U k j)))).congr fun a c _ _=>?_⟩,om⟩
    unfold EF;by_cases e:a=j/\c=r
    .obtain⟨rfl,rfl⟩:=e;simp
    .rw[ah e];by_cases s:a=j/\r<=c
     .rw[aj s,aj s,ah (fun h=>e ⟨s.1,h⟩),ah (fun h=>e ⟨s.1,h⟩)]
     .rw[ah s,ah s]
   have W:N=t:=om
   subst W;simp only[*,go_sem,cw,aF (om:r<1000000),bO]
   refine⟨⟨r+1,om,rfl,d.congr fun a c _ hc=>?_⟩,om⟩
   unfold EF;by_cases e:a=j/\r<=c
   .by_cases s:c=r
    .obtain⟨rfl,_⟩:=e;subst s;simp[ln];intro h;omega
    .rw[aj e,ah s,aj ⟨e.1,om⟩];simp[ap]
   .rw[ah e,ah om]
  have H:R=r:=om
  subst H;simp only[*,go_sem,cw,aF (om:j<1000000),bO]
  refine⟨⟨j+1,om,rfl,gg,d.congr fun a c _ hc=>?_⟩,om⟩
  unfold EF;rw[ah om]
 have X:N=j:=om
 subst X;obtain⟨I,J,F⟩:=id (q.has y.outer);simp -dsimp only[*,go_sem,aa,cw];refine FA (e:=59) J u rfl rfl om (fun a m=>by rw[E a m];dsimp only;rw[aj m];trivial) ?_
 simp only[go_sem];refine⟨⟨g',aY.here fun a m=>?_,fun a m=>?_,d.inj⟩,(iX.ext q).upd (a6 rfl) _⟩
 .simp only[lq,ke,m,aH,dD];rw[E a m];dsimp only;rw[aj m]
 .exact(d.row a m).upd (fun e=>by have:=d.rnew a m;rw[e]at this;exact y.some this) _

def Hv{c:Nat}{gb gc:Nat->AV}(d:S b=some ⟨50,2,n,gb⟩)(f:S c=some ⟨50,2,N,gc⟩)(a:c≠b)(g:0<N)(h:n+N<=1048576)(i:∀j,j<N->dY 2 (gc j))
  (k:∀b',(b'=b∨S b'=ae)->K (ϕ b' 0 (n+N)) ((S.del b).upd b' ⟨50,2,n+N,pN gb n N (fun j=>gc (0+j))⟩)):AQ 59 59 (ϕ b 0 n) (ϕ c 0 N) S K:=by
 unfold AQ gE;rw[show dQ 59=some 50 from rfl];refine⟨rfl,rfl,?_⟩;have l:DF S (ϕ c 0 N)=some (2,N,fun j=>gc (0+j),some c):=by simp[DF,f]
 rw[l];refine⟨rfl,g,fun j m=>by show dY 2 (gc (0+j));rw[aM];exact i j m,?_⟩
 simp only[d];exact⟨trivial,trivial,trivial,trivial,trivial,h,fun e=>a (by cases e;rfl),k⟩
structure vB(S0 S:St)(b:Nat)(g:Nat->Nat)(n N t:Nat)(M:az):Prop where
 ext:dh S0 S
 new:S0 b=ae
 outer:aY S b 59 1 N (fun a=>ϕ (g a) 0 (if a<t then n+N else n))
 row:∀a,a<N->iY S (g a) (if a<t then n+N else n) (fun r=>fB n M r a)
 rnew:∀a,a<N->S0 (g a)=ae
 inj:∀a c,a<N->c<N->g a=g c->a=c
def vB.upd{M:az}(h:vB S0 S b g n N t M){e:Nat}(d:S0 e=ae)(f:b≠e)(i:∀a,a<N->g a≠e)(X:eA):vB S0 (S.upd e X) b g n N t M :=
 ⟨h.ext.upd d _,h.new,h.outer.upd f _,fun a c=>(h.row a c).upd (i a c) _,h.rnew,h.inj⟩
def pH(h:k≠b):S.del b k=S k:=by simp[St.del,h]
def vB.app{M:az}(h:vB S0 S b g n N t M)(p:t<N){gb gc go:Nat->AV}(E:S (g t)=some ⟨50,2,n,gb⟩)(x:∀j,j<N->gc j=ϱ (if j=t then 1 else 0)){b':Nat}(i:b'=g t∨S b'=ae)(F:S b=some ⟨59,1,N,go⟩) :
  vB S0 (((S.del (g t)).upd b' ⟨50,2,n+N,pN gb n N gc⟩).upd b ⟨59,1,N,aL go t (ϕ b' 0 (n+N))⟩) b (fun a=>if a=t then b' else g a) n N (t+1) M:=by
 have q:∀a,a<N->b≠g a:=fun a f=>aY.ne h.outer (h.row a f) dc
 have y:b≠b':=by
  rcases i with e|e
  .rw[e];exact q t p
  .exact aY.fresh h.outer e
 have l:∀a,a<N->a≠t->g a≠b':=fun a f z=>by
  rcases i with e|e
  .rw[e];exact fun d=>z (h.inj a t f p d)
  .exact aY.fresh (h.row a f) e
 have s:S0 b'=ae:=by
  rcases i with e|e
  .rw[e];exact h.rnew t p
  .exact h.ext.none e
 refine⟨fun k X m=>?_,h.new,aY.here fun a f=>?_,fun a f=>?_,fun a f=>?_,fun a c f C o=>?_⟩
 .have G:k≠b:=by rintro rfl;rw[h.new]at m;cases m
  have H:k≠b':=by rintro rfl;rw[s]at m;cases m
  have I:k≠g t:=by rintro rfl;rw[h.rnew t p]at m;cases m
  rw[aE G,aE H,pH I];exact h.ext k X m
 .obtain⟨go',D,J⟩:=h.outer;rw[F]at D;cases D;simp only[aL];by_cases e:a=t
  .simp[e]
  .simp only[e,aI];rw[J a f];by_cases d:a<t
   .simp[d,(om:a<t+1)]
   .simp[d,(om:¬a<t+1)]
 .by_cases e:a=t
  .subst e;simp only[aH,Gi];refine aY.upd (aY.here fun r K=>?_) (ai y) _;have u:=h.row a f;rw[ah (cw _)]at u;obtain⟨gb',v,A⟩:=u;rw[E]at v;cases v;by_cases d:r<n
   .rw[DZ d];exact A r d
   .rw[yT om om,x _ om];simp only[fB,d,aI];congr 1;by_cases w:r-n=a
    .rw[aj w,aj om]
    .rw[ah w,ah om]
  .simp only[e,aI];have w:(if a<t+1 then n+N else n)=if a<t then n+N else n:=by
    by_cases d:a<t
    .rw[aj d,aj om]
    .rw[ah d,ah om]
   rw[w];have B:g a≠g t:=fun d=>e (h.inj a t f p d);obtain⟨ga,v,A⟩:=h.row a f;refine aY.upd (aY.upd ⟨ga,by rw[pH B];exact v,A⟩ (l a f e) _) (ai (q a f)) _
 .by_cases e:a=t
  .simp only[e,aH];exact s
  .simp only[e,aI];exact h.rnew a f
 .by_cases e:a=t
  .by_cases d:c=t
   .omega
   .rw[aj e,ah d]at o;exact absurd o.symm (l c C d)
  .by_cases d:c=t
   .rw[ah e,aj d]at o;exact absurd o (l a f e)
   .rw[ah e,ah d]at o;exact h.inj a c f C o
structure NPI(S0 S:St)(b b2 b3:Nat)(g:Nat->Nat)(n N t:Nat)(M:az):Prop where
 pb:vB S0 S b g n N t M
 h2:aY S b2 218 1 2 (fun j=>if j=0 then .nil else ι 0)
 h3:aY S b3 218 1 2 (fun j=>if j=0 then ϑ b 0 N else ι n)
 n2:S0 b2=ae
 n3:S0 b3=ae
def Dk(S0:St)(n N:Nat)(M:az)(h1:1<=n)(h2:n<=16)(h3:1<=N)(h4:N<=16) :
  cI 232 [aP n N M] S0 (fun r S'=>∃b g,r=.agg [ϑ b 0 N,ι n]/\iW S0 S' b g N (n+N) (fun j r=>fB n M r j)):=by
 refine jg func232 ntmps232 results232 ?_;have hp0:0<n:=om
 have D:(0:Int)<(n:Int):=om
 simp -dsimp only[go_sem,aa,aP,bn];refine ax.intro fun i E=>?_
 try simp -dsimp only[go_sem]
 refine(uP n N M h1 h2 h4 _ _ (cD _ _)).mono ?_;rintro _ S1 ⟨b,g,rfl,o,F,R,U⟩;simp only[go_sem,aa];refine ax.intro fun m p=>?_;simp only[go_sem,fy,aU,bF,ca,cA,bL,bR];have k:dh S0 S1:=((dh.refl S0).upd E _).trans F;have G:aY S1 i 218 1 2 (fun j=>if j=0 then .nil else ι 0):=F.has (aY.here fun _ _=>rfl)
 have v:vB S0 S1 b g n N 0 M:=⟨k,(af R).2,o.outer.congr fun a _=>by simp,fun a f=>by
  simp only[xg,aI];exact(o.row a f).congr fun r hr=>by simp[fB,hr],fun a f=>(af (U a f)).2,o.inj⟩
 have w:i≠m:=aY.fresh G p;refine aC (fun O S=>∃t:Nat,t<=N/\O 0=aP n N M/\O 2=ϰ i 0/\O 3=ϰ m 0/\O 13=ϑ b 0 N/\O 14=ι N/\O 15=ι t/\∃g,NPI S0 S b i m g n N t M) (fun O S=>N-bO (O 15)) ?_ ?_
 .simp only[go_sem,aP,bn];refine⟨0,om,rfl,g,?_,?_,?_,E,k.none p⟩
  .repeat' first|exact v|refine vB.upd ?_ (k.none p) (aY.fresh o.outer p) (fun a f=>aY.fresh (o.row a f) p) _
  .exact(G.upd w _).upd w _
  .exact aY.here fun j B=>by
    match j,B with
    | 0,_=>simp[fy]
    | 1,_=>simp[fy]
 clear F R U o v G k p E;rintro O S ⟨t,ht,e0,e2,e3,H,I,J,g,c⟩;by_cases h:t<N
 .obtain⟨V,C,K⟩:=id c.pb.outer;have W:V t=ϕ (g t) 0 n:=(K t h).trans sm
  simp -dsimp only[go_sem,aa,e0,e2,e3,H,I,J,h,C,W,aP,bn,D]
  repeat refine an ?_
  refine ax.intro fun q s=>?_;simp -dsimp only[go_sem];refine(fS dc dc).call ?_
  simp -dsimp only[go_sem,aa,h];have X:S0 q=ae:=c.pb.ext.none s;have Y:b≠q:=aY.fresh c.pb.outer s;have L:∀a,a<N->g a≠q:=fun a f=>aY.fresh (c.pb.row a f) s;have z2:i≠q:=aY.fresh c.h2 s;have z3:m≠q:=aY.fresh c.h3 s;refine k9 (fun T=>NPI S0 T b i m g n N t M/\∃gc,T q=some ⟨50,2,N,gc⟩/\∀j,j<N->gc j=ϱ (if j=t then 1 else 0)) ?_ ?_
  .refine⟨⟨(c.pb.upd X Y L _).upd X Y L _,(c.h2.upd z2 _).upd z2 _,(c.h3.upd z3 _).upd z3 _,c.n2,c.n3⟩,_,bW,fun j B=>?_⟩;simp only[aL];by_cases e:j=t
   .simp[e]
   .simp[e]
  clear c C K W s;rintro T ⟨c,gc,u6,y⟩;obtain⟨V,C,K⟩:=id c.pb.outer;have d:=c.pb.row t h;rw[ah (cw _)]at d;obtain⟨gb,ub,vb⟩:=id d;obtain⟨z,Z,A⟩:=id c.h3;have x3:z 0=ϑ b 0 N:=A 0 om;refine eO 5 [[0,1,2],[],[]] kr ?_
  simp -dsimp only[*,go_sem,aa];refine Hv ub u6 (ai (L t h)) om om (fun j B=>by rw[y j B];trivial) ?_
  intro b' l;have P:m≠g t:=aY.ne c.h3 d dc
  have p2:i≠g t:=aY.ne c.h2 d dc
  have p1:b≠g t:=aY.ne c.pb.outer d dc
  have q3:m≠b':=by rcases l with e|e;exact e▸P;exact aY.fresh c.h3 e
  have q2:i≠b':=by rcases l with e|e;exact e▸p2;exact aY.fresh c.h2 e
  have q1:b≠b':=by rcases l with e|e;exact e▸p1;exact aY.fresh c.pb.outer e
  simp only[*,go_sem,aa,pH P,pH p1,aF (om:t<1000000),bO]
  refine⟨⟨t+1,om,rfl,rfl,_,c.pb.app h ub (gc:=fun j=>gc j) y l C,?_,?_,c.n2,c.n3⟩,om⟩
  .obtain⟨x,l1,l2⟩:=c.h2;exact aY.upd (aY.upd ⟨x,by rw[pH p2];exact l1,l2⟩ q2 _) (aY.ne c.h2 c.pb.outer dc) _
  .exact aY.upd (aY.upd ⟨z,by rw[pH P];exact Z,A⟩ q3 _) (aY.ne c.h3 c.pb.outer dc) _
 have Q:N=t:=om
 subst Q;obtain⟨z,Z,A⟩:=id c.h3;obtain⟨g2,u2,v2⟩:=id c.h2;have x3:z 0=ϑ b 0 N:=A 0 om;have x4:z 1=ι n:=A 1 om;simp only[*,go_sem,aa,cw,fy,ed,aU,bF,ca,cA,bL,bJ,dD,bR];have y2:∀a,a<N->g a≠i:=fun a f=>aY.ne (c.pb.row a f) c.h2 dc
 have w2:b≠i:=aY.ne c.pb.outer c.h2 dc
 have u:=c.pb.upd (e:=i) c.n2 w2 y2 ⟨218,1,2,fy g2 0 [ϑ b 0 N,ι n]⟩;refine⟨b,rfl,g,⟨u.outer.congr fun a f=>by simp[f],fun a f=>?_,u.inj⟩,u.ext,u.new,u.rnew⟩
 have:=u.row a f;rw[aj f]at this;exact this

structure IQ(A:az)(N R k:Nat)(σ:Nat->Nat)(W:az):Prop where
 el:lT A N σ k
 q:∀a r,k<=a->a<N->k<=r->r<R->W a r=cl (fun x y=>A x (σ y)) k (r-k) (a-k)
 z:∀a r,k<=a->a<N->r<k->W a r=0
 b:∀a r,a<N->r<R->nb (W a r) KB
structure IE(A:az)(N R k j:Nat)(σ:Nat->Nat)(W:az):Prop where
 el:lT A N σ k
 p:∀r,k<=r->r<R->W k r=cl (fun x y=>A x (σ y)) k (r-k) 0
 pz:∀r,r<k->W k r=0
 n:∀a r,k<a->a<j->a<N->k+1<=r->r<R->W a r=cl (fun x y=>A x (σ y)) (k+1) (r-(k+1)) (a-(k+1))
 nz:∀a r,k<a->a<j->a<N->r<=k->W a r=0
 o:∀a r,j<=a->a<N->k<=r->r<R->W a r=cl (fun x y=>A x (σ y)) k (r-k) (a-k)
 oz:∀a r,j<=a->a<N->r<k->W a r=0
 b:∀a r,a<N->r<R->nb (W a r) KB
def IQ.swap{p:Nat}(h:IQ A N R k σ W)(m:k<=p)(s:p<N):IQ A N R k (fun a=>σ (dq k p a)) (fun a=>W (dq k p a)):=by
 have g:∀a,a<N->dq k p a<N:=fun a f=>by unfold dq;split<;>(try split)<;>omega
 have n:∀a,k<=a->k<=dq k p a:=fun a f=>by unfold dq;split<;>(try split)<;>omega
 have t:∀a,k<=a->dq k p a-k=dq 0 (p-k) (a-k):=fun a f=>by
  unfold dq;by_cases e:a=k
  .rw[aj e,aj om]
  .rw[ah e,ah (om:¬a-k=0)]
   by_cases o:a=p
   .rw[aj o,aj om];omega
   .rw[ah o,ah om]
 refine⟨h.el.swap m s,fun a r c d i j=>?_,fun a r c d l=>h.z _ r (n a c) (g a d) l,fun a r f l=>h.b _ r (g a f) l⟩;rw[h.q _ r (n a c) (g a d) i j,t a c];exact(EG (fun x y=>A x (σ y)) m (r-k) (a-k)).symm
def IQ.start(h:IQ A N R k σ W)(e:k<N):IE A N R k (k+1) σ W :=
 ⟨h.el,fun r d c=>by rw[h.q k r (ag _) e d c,bR],fun r f=>h.z k r (ag _) e f,fun a r d c=>om,fun a r d c=>om,fun a r d c=>h.q a r om c,fun a r d c=>h.z a r om c,h.b⟩
def IE.step(h:IE A N R k j σ W)(w:k<j)(g:j<N)(q:k<R)(t:∀i c,k+1+c<N->k+1+i<R->nb (cl (fun x y=>A x (σ y)) (k+1) i c) KB) :
  IE A N R k (j+1) σ (fun a r=>if a=j then(W k k*W j r-W j k*W k r)/det k (fun x y=>A x (σ y))else W a r):=by
 have u:=h.el.lead k (ag _);have key:∀r,k+1<=r->r<R->(W k k*W j r-W j k*W k r)/det k (fun x y=>A x (σ y))=cl (fun x y=>A x (σ y)) (k+1) (r-(k+1)) (j-(k+1)):=by
  intro r f d;rw[h.p k (ag _) q,h.o j r (ag _) g om d,h.o j k (ag _) g (ag _) q,h.p r om d,bR];have e:=ie h.el.lead (r-(k+1)) (j-(k+1));rw[(om:r-(k+1)+1=r-k),(om:j-(k+1)+1=j-k)]at e
  rw[bU (cl _ k 0 (j-k)),e];exact cn _ u
 have keyz:∀r,r<=k->(W k k*W j r-W j k*W k r)/det k (fun x y=>A x (σ y))=0:=by
  intro r z;have:W k k*W j r-W j k*W k r=0:=by
   by_cases e:r=k
   .rw[e,bU];omega
   .rw[h.oz j r (ag _) g om,h.pz r om];simp
  rw[this];simp
 refine⟨h.el,fun r f d=>?_,fun r f=>?_,fun a r f d l m s=>?_,fun a r f d l m=>?_,fun a r f d l m=>?_,fun a r f d l=>?_,fun a r f d=>?_⟩
 .rw[ah om];exact h.p r f d
 .rw[ah om];exact h.pz r f
 .by_cases e:a=j
  .rw[aj e,e];exact key r m s
  .rw[ah e];exact h.n a r f om l m s
 .by_cases e:a=j
  .rw[aj e];exact keyz r m
  .rw[ah e];exact h.nz a r f om l m
 .rw[ah om];exact h.o a r om d l m
 .rw[ah om];exact h.oz a r om d l
 .by_cases e:a=j
  .rw[aj e];by_cases v:k+1<=r
   .rw[key r v d];exact t _ _ om om
   .rw[keyz r om];exact nb.zero KB
  .rw[ah e];exact h.b a r f d
def IE.done(h:IE A N R k N σ W)(e:cl (fun x y=>A x (σ y)) k 0 0≠0):IQ A N R (k+1) σ W :=
 ⟨h.el.step e,fun a r f c d g=>h.n a r om c c d g,fun a r f c d=>h.nz a r om c c om,h.b⟩
def IQ.init(b:∀a r,a<N->r<R->nb (A r a) KB):IQ A N R 0 id (fun a r=>A r a) :=
 ⟨lT.init A N,fun a r _ _ _ _=>by rw[eV];rfl,fun a r _ _ h=>om,b⟩

def LO(b N top:Nat):Nat->AV:=fun j=>if j=0 then ϑ b 0 N else ι top
structure vZ(T:St)(b1 b N top:Nat)(L:Nat->Bool)(O:Tm)(S:St):Prop where
 base:O 1=ϰ b1 0
 p0:L 0=true->O 10=ϰ b1 0
 p1:L 1=true->O 11=ϑ b 0 N
 p2:L 2=true->O 12=ι N
 p4:L 4=true->O 14=ϰ b1 1
 p5:L 5=true->O 15=ι top
 ext:dh T S
 ex:∃bw b3,(L 3=true->O 13=ϑ bw 0 N/\aY S bw 59 1 N (fun _=>.nil)/\T bw=ae)/\(L 6=true->L 3=true/\O 16=.agg [ϑ bw 0 N,ι top])/\(L 7=true->O 3=ϰ b3 0/\T b3=ae/\∃g,S b3=some ⟨218,1,2,g⟩)/\(L 8=true->L 6=true/\L 7=true/\aY S b3 218 1 2 (LO bw N top))
def pt{d:Nat}{z:AV}(h:t≠d):(O.put (some d) z) t=O t:=by rw[Tm.put_eq];exact ah h
def pd{d:Nat}{z:AV}:(O.put (some d) z) d=z:=by rw[Tm.put_eq];exact aj rfl
def gY{L:Nat->Bool}(h:(if k=i then true else L k)=true)(a:k≠i):L k=true:=by rwa [ah a]at h
section
variable {T:St} {b1 b N top:Nat} {L:Nat->Bool} {O:Tm} {S:St}
def vZ.s0(h:vZ T b1 b N top L O S):vZ T b1 b N top (fun k=>if k=0 then true else L k) (O.put (some 10) (ϰ b1 0)) S :=
 ⟨by rw[pt dc];exact h.base,fun _=>pd,fun a=>by rw[pt dc];exact h.p1 (gY a dc),fun a=>by rw[pt dc];exact h.p2 (gY a dc),fun a=>by rw[pt dc];exact h.p4 (gY a dc),fun a=>by rw[pt dc];exact h.p5 (gY a dc),h.ext,by
  obtain⟨bw,d,e,c,f,g⟩:=h.ex;refine⟨bw,d,fun a=>?_,fun a=>?_,fun a=>?_,fun a=>?_⟩
  .rw[pt dc];exact e (gY a dc)
  .rw[pt dc];exact⟨by simpa using (c (gY a dc)).1,(c (gY a dc)).2⟩
  .rw[pt dc];exact f (gY a dc)
  .have:=g (gY a dc);exact⟨by simpa using this.1,by simpa using this.2.1,this.2.2⟩⟩
def vZ.s1(h:vZ T b1 b N top L O S):vZ T b1 b N top (fun k=>if k=1 then true else L k) (O.put (some 11) (ϑ b 0 N)) S :=
 ⟨by rw[pt dc];exact h.base,fun a=>by rw[pt dc];exact h.p0 (gY a dc),fun _=>pd,fun a=>by rw[pt dc];exact h.p2 (gY a dc),fun a=>by rw[pt dc];exact h.p4 (gY a dc),fun a=>by rw[pt dc];exact h.p5 (gY a dc),h.ext,by
  obtain⟨bw,d,e,c,f,g⟩:=h.ex;refine⟨bw,d,fun a=>?_,fun a=>?_,fun a=>?_,fun a=>?_⟩
  .rw[pt dc];exact e (gY a dc)
  .rw[pt dc];exact⟨by simpa using (c (gY a dc)).1,(c (gY a dc)).2⟩
  .rw[pt dc];exact f (gY a dc)
  .have:=g (gY a dc);exact⟨by simpa using this.1,by simpa using this.2.1,this.2.2⟩⟩
def vZ.s2(h:vZ T b1 b N top L O S):vZ T b1 b N top (fun k=>if k=2 then true else L k) (O.put (some 12) (ι N)) S :=
 ⟨by rw[pt dc];exact h.base,fun a=>by rw[pt dc];exact h.p0 (gY a dc),fun a=>by rw[pt dc];exact h.p1 (gY a dc),fun _=>pd,fun a=>by rw[pt dc];exact h.p4 (gY a dc),fun a=>by rw[pt dc];exact h.p5 (gY a dc),h.ext,by
  obtain⟨bw,d,e,c,f,g⟩:=h.ex;refine⟨bw,d,fun a=>?_,fun a=>?_,fun a=>?_,fun a=>?_⟩
  .rw[pt dc];exact e (gY a dc)
  .rw[pt dc];exact⟨by simpa using (c (gY a dc)).1,(c (gY a dc)).2⟩
  .rw[pt dc];exact f (gY a dc)
  .have:=g (gY a dc);exact⟨by simpa using this.1,by simpa using this.2.1,this.2.2⟩⟩
def vZ.s4(h:vZ T b1 b N top L O S):vZ T b1 b N top (fun k=>if k=4 then true else L k) (O.put (some 14) (ϰ b1 1)) S :=
 ⟨by rw[pt dc];exact h.base,fun a=>by rw[pt dc];exact h.p0 (gY a dc),fun a=>by rw[pt dc];exact h.p1 (gY a dc),fun a=>by rw[pt dc];exact h.p2 (gY a dc),fun _=>pd,fun a=>by rw[pt dc];exact h.p5 (gY a dc),h.ext,by
  obtain⟨bw,d,e,c,f,g⟩:=h.ex;refine⟨bw,d,fun a=>?_,fun a=>?_,fun a=>?_,fun a=>?_⟩
  .rw[pt dc];exact e (gY a dc)
  .rw[pt dc];exact⟨by simpa using (c (gY a dc)).1,(c (gY a dc)).2⟩
  .rw[pt dc];exact f (gY a dc)
  .have:=g (gY a dc);exact⟨by simpa using this.1,by simpa using this.2.1,this.2.2⟩⟩
def vZ.s5(h:vZ T b1 b N top L O S):vZ T b1 b N top (fun k=>if k=5 then true else L k) (O.put (some 15) (ι top)) S :=
 ⟨by rw[pt dc];exact h.base,fun a=>by rw[pt dc];exact h.p0 (gY a dc),fun a=>by rw[pt dc];exact h.p1 (gY a dc),fun a=>by rw[pt dc];exact h.p2 (gY a dc),fun a=>by rw[pt dc];exact h.p4 (gY a dc),fun _=>pd,h.ext,by
  obtain⟨bw,d,e,c,f,g⟩:=h.ex;refine⟨bw,d,fun a=>?_,fun a=>?_,fun a=>?_,fun a=>?_⟩
  .rw[pt dc];exact e (gY a dc)
  .rw[pt dc];exact⟨by simpa using (c (gY a dc)).1,(c (gY a dc)).2⟩
  .rw[pt dc];exact f (gY a dc)
  .have:=g (gY a dc);exact⟨by simpa using this.1,by simpa using this.2.1,this.2.2⟩⟩
def vZ.s3(h:vZ T b1 b N top L O S)(f:L 3=false){c:Nat}(j:S c=ae)(z:Nat->AV)(m:∀i,i<N->z i=.nil):vZ T b1 b N top (fun k=>if k=3 then true else L k) (O.put (some 13) (ϑ c 0 N)) (S.upd c ⟨59,1,N,z⟩):=by
 have l:=h.ext.none j;refine⟨by rw[pt dc];exact h.base,fun a=>by rw[pt dc];exact h.p0 (gY a dc),fun a=>by rw[pt dc];exact h.p1 (gY a dc),fun a=>by rw[pt dc];exact h.p2 (gY a dc),fun a=>by rw[pt dc];exact h.p4 (gY a dc),fun a=>by rw[pt dc];exact h.p5 (gY a dc),h.ext.upd l _,?_⟩
 obtain⟨bw,n,t,o,p,q⟩:=h.ex;have d:L 6=true->False:=fun d=>by rw[(o d).1]at f;cases f
 refine⟨c,n,fun _=>⟨pd,aY.here m,l⟩,fun a=>(d (gY a dc)).elim,fun a=>?_,fun a=>(d (q (gY a dc)).1).elim⟩
 rw[pt dc]
 obtain⟨r,s,g,e⟩:=p (gY a dc)
 refine⟨r,s,g,?_⟩;rw[aE];exact e;rintro rfl;rw[j]at e;cases e
def vZ.s6(h:vZ T b1 b N top L O S)(c:L 3=true):∃bw,O 13=ϑ bw 0 N/\vZ T b1 b N top (fun k=>if k=6 then true else L k) (O.put (some 16) (.agg [ϑ bw 0 N,ι top])) S:=by
 obtain⟨bw,e,d,i,f,g⟩:=h.ex;refine⟨bw,(d c).1,⟨by rw[pt dc];exact h.base,fun a=>by rw[pt dc];exact h.p0 (gY a dc),fun a=>by rw[pt dc];exact h.p1 (gY a dc),fun a=>by rw[pt dc];exact h.p2 (gY a dc),fun a=>by rw[pt dc];exact h.p4 (gY a dc),fun a=>by rw[pt dc];exact h.p5 (gY a dc),h.ext,bw,e,fun a=>?_,fun _=>⟨by simpa using c,pd⟩,fun a=>?_,fun a=>?_⟩⟩
 .rw[pt dc];exact d c
 .rw[pt dc];exact f (gY a dc)
 .have:=g (gY a dc);exact⟨sm,by simpa using this.2.1,this.2.2⟩
def vZ.s7(h:vZ T b1 b N top L O S)(d:L 7=false){c:Nat}(e:S c=ae)(z:Nat->AV):vZ T b1 b N top (fun k=>if k=7 then true else L k) (O.put (some 3) (ϰ c 0)) (S.upd c ⟨218,1,2,z⟩):=by
 have f:=h.ext.none e;refine⟨by rw[pt dc];exact h.base,fun a=>by rw[pt dc];exact h.p0 (gY a dc),fun a=>by rw[pt dc];exact h.p1 (gY a dc),fun a=>by rw[pt dc];exact h.p2 (gY a dc),fun a=>by rw[pt dc];exact h.p4 (gY a dc),fun a=>by rw[pt dc];exact h.p5 (gY a dc),h.ext.upd f _,?_⟩
 obtain⟨bw,o,j,g,p,l⟩:=h.ex;refine⟨bw,c,fun a=>?_,fun a=>?_,fun _=>⟨pd,f,z,bW⟩,fun a=>?_⟩
 .rw[pt dc]
  obtain⟨m,i,n⟩:=j (gY a dc)
  exact⟨m,i.upd (aY.fresh i e) _,n⟩
 .rw[pt dc];exact⟨by simpa using (g (gY a dc)).1,(g (gY a dc)).2⟩
 .have:=(l (gY a dc)).2.1;rw[this]at d;cases d
def vZ.s8(h:vZ T b1 b N top L O S)(e:L 6=true)(f:L 7=true):∃bw c g,O 16=.agg [ϑ bw 0 N,ι top]/\O 3=ϰ c 0/\S c=some ⟨218,1,2,g⟩/\∀z,(∀j,j<2->z j=LO bw N top j)->vZ T b1 b N top (fun k=>if k=8 then true else L k) O (S.upd c ⟨218,1,2,z⟩):=by
 obtain⟨bw,c,o,d,p,t⟩:=h.ex;obtain⟨i,l,g,m⟩:=p f;refine⟨bw,c,g,(d e).2,i,m,fun z q=>⟨h.base,fun a=>h.p0 (gY a dc),fun a=>h.p1 (gY a dc),fun a=>h.p2 (gY a dc),fun a=>h.p4 (gY a dc),fun a=>h.p5 (gY a dc),h.ext.upd l _,bw,c,fun a=>?_,fun a=>?_,fun _=>⟨i,l,z,bW⟩,fun _=>⟨by simpa using e,by simpa using f,aY.here q⟩⟩⟩
 .obtain⟨r,n,s⟩:=o (gY a dc)
  exact⟨r,n.upd (aY.ne n (aY.of m) dc) _,s⟩
 .exact⟨by simpa using (d (gY a dc)).1,(d (gY a dc)).2⟩
end
structure Gk(S0 S:St)(b3 b5 bw:Nat)(x:AV)(N R kk top:Nat)(W:az)(d:Int)(ls:Nat->Nat):Prop where
 cols:∃c,rS S bw c N R W
 pair:aY S b3 218 1 2 (LO bw N top)
 var:cS S b5 50 2 (ϱ d)
 list:cN 3 1 S0 S x kk (fun i=>ι (ls i))
 nw:S0 bw=ae
 n3:S0 b3=ae
 n5:S0 b5=ae
def Gk.keep{W':az}{d:Int}(h:Gk S0 S b3 b5 bw x N R kk top W d ls)(b:iX bw S S'){c:Nat->Nat}(n:rS S' bw c N R W'):Gk S0 S' b3 b5 bw x N R kk top W' d ls:=by
 obtain⟨p,a⟩:=h.cols;have o:dh S0 S':=fun k X g=>b k X (h.list.1 k X g) (fun e=>by rw[e,h.nw]at g;cases g)
 refine⟨⟨c,n⟩,b.has h.pair (aY.ne h.pair a.outer dc),b.var h.var ?_,h.list.step o fun d i=>?_,h.nw,h.n3,h.n5⟩
 .obtain⟨y,f,_⟩:=h.var;obtain⟨y',l,_⟩:=a.outer;rintro rfl;rw[f]at l;cases l
 .rcases h.list.2 with⟨_,j⟩|⟨e,_,j,m⟩
  .obtain⟨_,_,_,e⟩:=i;rw[j]at e;cases e
  .rw[j]at i;rw[dP.1 i];obtain⟨y,f,_⟩:=id m;rw[f];exact b _ _ f (aY.ne m a.outer dc)
def Gk.setVar{d:Int}(h:Gk S0 S b3 b5 bw x N R kk top W d ls){g:Nat->AV}(c:S b5=some ⟨50,2,1,g⟩)(k:R≠1):Gk S0 (S.upd b5 ⟨50,2,1,aL g 0 (ϱ z)⟩) b3 b5 bw x N R kk top W z ls:=by
 obtain⟨l,b⟩:=h.cols;have f:aY S b5 50 2 1 g:=aY.of c;refine⟨⟨l,b.outer.upd (aY.ne b.outer f dc) _,fun a i=>(b.row a i).upd ?_ _⟩,h.pair.upd (aY.ne h.pair f dc) _,cS.set,h.list.upd h.n5 (fun d m e=>h.list.other c dc (e▸m)) _,h.nw,h.n3,h.n5⟩
 rintro e;obtain⟨y,j,_⟩:=b.row a i;rw[e,c]at j;cases j;exact k rfl
def Gk.other{d:Int}(h:Gk S0 S b3 b5 bw x N R kk top W d ls){e:Nat}(c:S e=ae)(X:eA):Gk S0 (S.upd e X) b3 b5 bw x N R kk top W d ls:=by
 obtain⟨g,b⟩:=h.cols;exact⟨⟨g,b.outer.upd (aY.fresh b.outer c) _,fun a f=>(b.row a f).upd (aY.fresh (b.row a f) c) _⟩,h.pair.upd (aY.fresh h.pair c) _,h.var.upd (h.var.fresh c) _,h.list.upd (h.list.1.none c) (h.list.fresh c) _,h.nw,h.n3,h.n5⟩
def Gk.app{d:Int}(h:Gk S0 S b3 b5 bw x N R kk top W d ls){e k' row:Nat}(l:cN 3 1 S0 S' (ϑ e 0 k') k' (fun i=>if i=kk then ι row else ι (ls i)))(k:∀d X,S d=some X->¬dV x d->S' d=some X) :
  Gk S0 S' b3 b5 bw (ϑ e 0 k') N R k' top W d (fun i=>if i=kk then row else ls i):=by
 obtain⟨m,c⟩:=h.cols;have kp:∀{b ty es n:Nat} {g:Nat->AV},aY S b ty es n g->ty≠3->aY S' b ty es n g:=fun o p=>by
  obtain⟨y,f,j⟩:=o;exact⟨y,k _ _ f (h.list.other f p),j⟩
 refine⟨⟨m,kp c.outer dc,fun a q=>kp (c.row a q) dc⟩,kp h.pair dc,?_,l.congr fun i _=>by split<;>rfl,h.nw,h.n3,h.n5⟩
 obtain⟨y,f,j⟩:=h.var;exact⟨y,k _ _ f (h.list.other f dc),j⟩
def EV(S0 S:St)(b3 b5 bw:Nat)(x:AV)(N R kk top:Nat)(d:Int)(ls:Nat->Nat)(A:az)(t:Nat)(σ:Nat->Nat)(row:Nat):Prop:=∃W,Gk S0 S b3 b5 bw x N R kk top W d ls/\IE A N R kk t σ W/\W kk row≠0
def IV(S0 S:St)(b3 b5 bw:Nat)(x:AV)(n N R top:Nat)(A:az)(row:Nat):Prop:=∃kk W d ls,Gk S0 S b3 b5 bw x N R kk top W d ls /\
 ((∃σ,kk=min row n/\row<=n+n/\IQ A N R kk σ W/\d=det kk (fun x y=>A x (σ y))/\(∀r,n<=r->r<row->W n r=0)/\∀i,i<kk->ls i=i) ∨
   (kk=N/\∃Rr,n<=Rr/\Rr<=n+n/\det (n+1) (fun a b=>A (vU n Rr a) b)≠0/\∀i,i<N->ls i=vU n Rr i))
def wG(S0:St)(b:Nat)(c:Nat->Nat)(n N R top:Nat)(A:az)(hn:n<=8)(h1:1<=n)(hN:N=n+1)(hR:R=n+n+1)(hO:rS S0 b c N R (fun a r=>A r a))
  (hB:∀σ k,lT A N σ k->∀k' i j,k'+j<N->k'+i<R->nb (cl (fun x y=>A x (σ y)) k' i j) KB) (hdet:det (n+1) (fun a b=>A (vU n (n+n) a) b)≠0) :
  cI 259 [.agg [ϑ b 0 N,ι top]] S0 (fun r S'=>∃e Rr,r=ϑ e 0 N/\n<=Rr/\Rr<=n+n/\det (n+1) (fun a b=>A (vU n Rr a) b)≠0/\aY S' e 3 1 N (fun i=>ι (vU n Rr i))/\dh S0 S'):=by
 have hKB:=mR;refine jg func259 ntmps259 results259 ?_;simp -dsimp only[go_sem,aU,bF,ca,cA];refine ax.intro fun b1 f1=>?_;refine k9 (fun T=>aY T b1 218 1 2 (LO b N top)/\dh S0 T) ?_ ?_
 .refine⟨aY.here fun j hj=>?_,(dh.refl S0).upd f1 _⟩
  match j,hj with
  | 0,_=>rfl
  | 1,_=>rfl
 rintro T ⟨hT1,hET⟩;refine wU (vZ T b1 b N top) kr ?_ ?_ ?_
 .exact⟨by simp only[go_sem],(fun h=>by cases h),(fun h=>by cases h),(fun h=>by cases h),(fun h=>by cases h),(fun h=>by cases h),dh.refl T,0,0,(fun h=>by cases h),(fun h=>by cases h),(fun h=>by cases h),(fun h=>by cases h)⟩
 .refine⟨?_,?_,?_,?_,?_,?_,?_,?_,?_,trivial⟩
  .intro L O S f D l;have al:∀k,_->L k=true:=aG.1 l;refine dl rfl ?_;simp only[go_sem,f.base];exact f.s0
  .intro L O S f D l;have al:∀k,_->L k=true:=aG.1 l;refine dl rfl ?_;obtain⟨g1,u1,v1⟩:=id (f.ext.has hT1);simp only[go_sem,aa,f.p0 (al 0 dc),u1,show g1 0=ϑ b 0 N from v1 0 om]
   exact f.s1
  .intro L O S f D l;have al:∀k,_->L k=true:=aG.1 l;refine dl rfl ?_;simp only[go_sem,f.p1 (al 1 dc)]
   exact f.s2
  .intro L O S f D l;have al:∀k,_->L k=true:=aG.1 l;refine dl rfl ?_;simp -dsimp only[go_sem,f.p2 (al 2 dc)]
   repeat refine an ?_
   refine ax.intro fun bw fw=>?_;exact f.s3 D fw _ (fun _ _=>rfl)
  .intro L O S f D l;have al:∀k,_->L k=true:=aG.1 l;refine dl rfl ?_;simp only[go_sem,f.base];exact f.s4
  .intro L O S f D l;have al:∀k,_->L k=true:=aG.1 l;refine dl rfl ?_;obtain⟨g1,u1,v1⟩:=id (f.ext.has hT1);simp only[go_sem,aa,f.p4 (al 4 dc),u1,show g1 1=ι top from v1 1 om]
   exact f.s5
  .intro L O S f D l;have al:∀k,_->L k=true:=aG.1 l;refine dl rfl ?_;obtain⟨bw,q1,q2⟩:=f.s6 (al 3 dc)
   simp only[go_sem,q1,f.p5 (al 5 dc)]
   exact q2
  .intro L O S f D l;have al:∀k,_->L k=true:=aG.1 l;refine dl rfl ?_;simp only[go_sem];refine ax.intro fun bw fw=>?_;exact f.s7 D fw _
  .intro L O S f D l;have al:∀k,_->L k=true:=aG.1 l;refine dl rfl ?_;obtain⟨bw,P,g,q1,q2,q3,q4⟩:=f.s8 (al 6 dc) (al 7 dc)
   simp only[go_sem,aa,q1,q2,q3,aU,bF,ca,cA];refine q4 _ (fun j hj=>?_)
   match j,hj with
   | 0,_=>simp[fy,LO]
   | 1,_=>simp[fy,LO]
 intro L O S f D;obtain⟨bw,P,m3,m6,m7,m8⟩:=f.ex;obtain⟨a1,a2,a3⟩:=m3 (D 3 dc)
 obtain⟨c1,c2,_⟩:=m7 (D 7 dc)
 have d3:=(m8 (D 8 dc)).2.2
 have hE:=hET.trans f.ext;have nw:=hET.none a3;have n3:=hET.none c2;have Q:=hO.ext hE;have e1:=f.base;have E:=f.ext.has hT1;clear f D m3 m6 m7 m8 a3 c2 hT1 hET a1;obtain⟨g1,u1,v1⟩:=id E;obtain⟨g3,u,H⟩:=id d3;obtain⟨gw,uw,vw⟩:=id a2;obtain⟨gb,ub,vb⟩:=id Q.outer;simp -dsimp only[go_sem,aa,e1,c1,u1,u,show g1 0=ϑ b 0 N from v1 0 om,show g3 0=ϑ bw 0 N from H 0 om];refine FA (e:=59) uw ub rfl rfl om (fun a l=>by rw[vb a l];trivial) ?_
 simp -dsimp only[go_sem,aa,show g1 0=ϑ b 0 N from v1 0 om,show g3 0=ϑ bw 0 N from H 0 om];refine(fS dc dc).call ?_
 simp -dsimp only[go_sem];refine ax.intro fun M f5=>?_
 try simp only[go_sem]
 have hb5:bw≠M:=fun e=>by rw[e]at f5;rw[bW]at f5;cases f5
 have s5:S M=ae:=by rw[aE (ai hb5)]at f5;exact f5
 have h3w:P≠bw:=aY.ne d3 a2 dc
 have h35:P≠M:=aY.fresh d3 s5;have n5:=hE.none s5;have hInit:∀X Y,X=(fun j=>if 0<=j/\j<N then gb (j-0)else gw j)->Y 0=ϱ 1->Gk S0 ((S.upd bw ⟨59,1,N,X⟩).upd M ⟨50,2,1,Y⟩) P M bw .nil N R 0 top (fun a r=>A r a) 1 (fun i=>i):=by
  intro X Y hX hY;refine⟨⟨c,aY.upd (aY.here fun a l=>?_) hb5 _,fun a l=>?_⟩,(d3.upd h3w _).upd h35 _,cS.new hY,cN.nil ((hE.upd nw _).upd n5 _) _,nw,n3,n5⟩
  .rw[hX];simp only[lq,ke,l,aH,dD];exact vb a l
  .exact((Q.row a l).upd (aY.ne (Q.row a l) a2 dc) _).upd (aY.fresh (Q.row a l) s5) _
 have hIQ:IQ A N R 0 id (fun a r=>A r a):=IQ.init fun a r l hr=>by
  have:=hB id 0 (lT.init A N) 0 r a om om
  rwa [eV]at this
 refine aC (fun O S=>∃row:Nat,row<=n+n+1/\O 3=ϰ P 0/\O 5=ϖ M 0/\O 6=ι row/\IV S0 S P M bw (O 4) n N R top A row) (fun O S=>n+n+2-bO (O 6)) ?_ ?_
 .simp only[go_sem,c1];rw[lu];exact⟨0,om,rfl,0,_,1,_,hInit _ _ rfl (by simp[aL]),a6 ⟨id,om,om,hIQ,by simp[det],fun r h1 h2=>om,fun i h=>om⟩⟩
 clear hIQ hInit e1 c1 u1 v1 u H uw vw ub vb Q E d3 a2 hE f5 s5 h35 h3w f1;rintro O S ⟨row,hrow,B,I,w,kk,W,d,ls,J,hV⟩;obtain⟨g3,u,H⟩:=id J.pair;have F:g3 0=ϑ bw 0 N:=H 0 om;by_cases G:kk<N
 .obtain⟨σ,k1,k2,hQ,hd,hz,hls⟩:=hV.resolve_right (fun h=>om)
  apply so (fun O' S'=>O' 3=ϰ P 0/\O' 4=O 4/\O' 5=ϖ M 0/\O' 6=ι row/\O' 7=ι kk/\O' 8=ι kk/\S'=S)
  .intro key;rcases J.list.2 with⟨h0,hx⟩|⟨e,_,hx,_⟩
   .subst h0;have hN0:(0:Int)<(N:Int):=om
    simp only[go_sem,aa,B,w,hx,u,F,hN0];refine key _ _ ?_;simp only[go_sem,B,I,w,hx];exact⟨rfl,rfl⟩
   .simp only[go_sem,aa,B,w,hx,u,F,G];refine key _ _ ?_;simp only[*,go_sem]
  generalize O 4=x at *;rintro O' S' ⟨e3',e4',e5',e6',e7',e8',rfl⟩;refine aC (fun O S=>∃j:Nat,kk<=j/\j<=N/\O 3=ϰ P 0/\O 4=x/\O 5=ϖ M 0/\O 6=ι row/\O 7=ι kk/\O 8=ι j/\Gk S0 S P M bw x N R kk top W d ls/\∀a,kk<=a->a<j->W a row=0) (fun O S=>N-bO (O 8)) ?_ ?_
  .exact⟨kk,om,om,e3',e4',e5',e6',e7',e8',J,fun a h1 h2=>om⟩
  clear e3' e4' e5' e6' e7' e8' B I w u H F J;rintro O S ⟨j,hj1,hj2,B,U,I,w,e7,e8,J,hzz⟩;obtain⟨g3,u,H⟩:=id J.pair;have F:g3 0=ϑ bw 0 N:=H 0 om;obtain⟨c,hC⟩:=J.cols;obtain⟨gw,uw,vw⟩:=id hC.outer;have C:row<R:=om
  by_cases o:j<N
  .obtain⟨gc,uc,vc⟩:=id (hC.row j o);have xw:gw j=ϕ (c j) 0 R:=vw j o;have xc:gc row=ϱ (W j row):=vc row C;have nW:=hQ.b j row o C;simp -dsimp only[go_sem,aa,B,w,e8,u,F,o,uw,xw,uc,xc,C];refine(ka nW om).call ?_;by_cases V:W j row=0
   .simp only[go_sem,aa,B,U,I,w,e7,e8,u,F,o,xw,xc,V,show(Int.sign 0==0)=true from rfl,aF (om:j<1000000),bO]
    exact⟨⟨j+1,om,om,rfl,J,fun a h1 h2=>by
     by_cases e:a=j
     .rw[e];exact V
     .exact hzz a h1 om⟩,om⟩
   .have hs:((W j row).sign==0)=false:=by
     rw[fW];intro h;exact V (iA.1 h)
    have hjne:((j:Int)==(N:Int))=false:=by rw[fW];omega
    simp -dsimp only[go_sem,aa,B,U,I,w,e7,e8,u,F,o,xw,xc,hs,hjne];refine(Bs S bw c N R kk j W G o hC).mono ?_;rintro _ S1 ⟨⟨c',hC'⟩,hK⟩;have E:=J.keep hK hC';have hQ1:=hQ.swap hj1 o;have Z:det kk (fun x y=>A x (σ (dq kk j y)))=d:=by
     rw[hd];exact aZ fun a y _ hy=>by rw[show dq kk j y=y by unfold dq;rw[ah om,ah om]]
    have s:W (dq kk j kk) row≠0:=by unfold dq;rw[aj rfl];exact V
    obtain⟨W1,hW1⟩:∃W1:az,W1=fun a=>W (dq kk j a):=⟨_,rfl⟩;obtain⟨σ1,hσ1⟩:∃σ1:Nat->Nat,σ1=fun a=>σ (dq kk j a):=⟨_,rfl⟩;rw[<-hW1]at E hQ1;rw[<-hσ1]at hQ1
    replace Z:det kk (fun x y=>A x (σ1 y))=d:=by rw[hσ1];exact Z
    replace s:W1 kk row≠0:=by rw[hW1];exact s
    clear hW1 hσ1;have m:=hQ1.start G;have hd0:d≠0:=by rw[<-Z];exact m.el.lead kk (ag _)
    have ndd:nb d KB:=by
     rw[<-Z];by_cases e:kk=0
     .rw[e];simp only[det];exact nb.one om
     .have:=hB σ1 kk m.el (kk-1) 0 0 om om;rw[cH,(om:kk-1+1=kk)]at this
      exact this
    clear u H F uw vw xw uc vc xc J hC hK hC';obtain⟨g3,u,H⟩:=id E.pair;have F:g3 0=ϑ bw 0 N:=H 0 om;simp only[go_sem,e7,e8,aF (om:kk<1000000)]
    refine aC (fun O S=>∃t:Nat,kk+1<=t/\t<=N/\O 3=ϰ P 0/\O 4=x/\O 5=ϖ M 0/\O 6=ι row/\O 7=ι kk/\O 9=ι t/\EV S0 S P M bw x N R kk top d ls A t σ1 row) (fun O S=>N-bO (O 9)) ?_ ?_
    .simp only[go_sem,B,U,I,w,e7];exact⟨kk+1,om,om,rfl,W1,E,m,s⟩
    clear B U I w e7 e8 E m hQ1 u H F s hzz V hs hjne nW hQ hd;rintro O S ⟨t,ht1,ht2,B,U,I,w,e7,e9,W2,K,m,s⟩;obtain⟨g3,u,H⟩:=id K.pair;have F:g3 0=ϑ bw 0 N:=H 0 om;obtain⟨g5,u5,x5⟩:=id K.var;by_cases htt:t<N
    .have hrk:row=kk:=om
     obtain⟨c2,hC2⟩:=K.cols;simp -dsimp only[go_sem,aa,B,U,I,w,e7,e9,u,F,u5,x5,htt];refine(uI S bw c2 N R kk t row W2 d G htt C om hd0 ndd m.b hC2).mono ?_;rintro _ S3 ⟨⟨c3,hC3⟩,hK3⟩;have hst:=m.step om htt om (fun i c h1 h2=>hB σ1 kk m.el (kk+1) i c h1 h2);rw[Z]at hst;rw[hrk]at hC3;simp only[go_sem,B,U,I,w,e7,e9,aF (om:t<1000000),bO]
     exact⟨⟨t+1,om,om,rfl,_,K.keep hK3 hC3,hst,by rw[ah om];exact s⟩,om⟩
    have htN:N=t:=om
    obtain⟨c2,hC2⟩:=K.cols;obtain⟨gw,uw,vw⟩:=id hC2.outer;obtain⟨gc,uc,vc⟩:=id (hC2.row kk G);have xw:gw kk=ϕ (c2 kk) 0 R:=vw kk G;have xc:gc row=ϱ (W2 kk row):=vc row C;simp -dsimp only[go_sem,aa,B,U,I,w,e7,e9,u,F,u5,x5,htt,uw,xw,uc,xc,G,C];have hS5:=K.setVar (z:=W2 kk row) (g:=g5) u5 om;refine ax.intro fun b9 f9=>?_;have hxb:=hS5.list.fresh f9;have hS6:=hS5.other f9 ⟨3,1,1,fun j=>[ι row].getD j .any⟩
    try simp -dsimp only[go_sem,U,w]
    refine cN.app3 (v:=ι row) hS6.list (om:kk<1000000) (by simp[dY]) (aQ ⟨_,_,_,rfl,bW,rfl,fun h=>hxb _ h rfl⟩) ?_
    intro e S7 hX' hk1 _;have hS7:=hS6.app hX' hk1;simp only[go_sem,B,U,I,w,aF (om:row<1000000),bO]
    refine⟨⟨row+1,om,rfl,kk+1,W2,W2 kk row,_,hS7,?_⟩,om⟩
    subst htN;by_cases hkn:kk<n
    .have hrk:row=kk:=om
     have hp:=m.p kk (ag _) om;rw[bR]at hp;rw[hrk]at s ⊢;refine a6 ⟨σ1,om,om,m.done (by rw[<-hp];exact s),by rw[hp,cH],fun r h1 h2=>om,fun i hi=>?_⟩
     by_cases e:i=kk
     .rw[aj e];exact e.symm
     .rw[ah e];exact hls i om
    .have hkn':kk=n:=om
     have hp:=m.p row om C;subst hkn';have hl:=m.el;rw[hN]at hl;have:=hl.last (R:=row) om;refine aQ ⟨om,row,om,om,fun h0=>?_,fun i hi=>?_⟩
     .rw[h0,<-hp]at this;exact s om
     .unfold vU;by_cases e:i=kk
      .rw[aj e,ah om]
      .rw[ah e,aj om];exact hls i om
  .have hjN':N=j:=om
   have hjeq:((j:Int)==(N:Int))=true:=by rw[vV];omega
   simp only[go_sem,aa,B,U,I,w,e7,e8,u,F,o,hjeq,aF (om:row<1000000),bO]
   have hl:=hQ.el;rw[hN]at hl;have hkn:kk=n:=by
    refine Jy om (Nat.le_of_not_lt fun hlt=>?_);refine hl.found (R:=n+n) hlt hdet fun a l=>?_;have hrk:row=kk:=om
    have:=hQ.q (kk+a) kk om om (ag _) om;rw[bR,(om:kk+a-kk=a)]at this
    rw[<-this,<-hrk];exact hzz _ om om
   have hw:=hzz n om om;have hq:=hQ.q n row om om om C;have hlast:=hl.last (R:=row) om;subst hkn;rw[bR]at hq;refine⟨⟨row+1,om,rfl,kk,W,d,ls,J,a6 ⟨σ,om,?_,hQ,hd,fun r h1 h2=>?_,hls⟩⟩,om⟩
   .refine CE k2 fun e=>hdet ?_;rw[<-e];rw[<-hq,hw]at hlast;simp only[Int.natAbs_zero]at hlast;omega
   .by_cases e:r=row
    .rw[e];exact hw
    .exact hz r h1 om
 obtain⟨hkN,Rr,r1,r2,r3,r4⟩:=hV.resolve_left (fun⟨σ,h,_⟩=>om)
 subst hkN;rcases J.list.2 with⟨h0,hx⟩|⟨e,he,hx,hh⟩
 .omega
 simp only[go_sem,aa,B,w,hx,u,F,cw];exact⟨e,rfl,Rr,r1,r2,r3,hh.congr fun i hi=>by rw[r4 i hi],J.list.1⟩

def MI{e:Nat}(a:S b=some ⟨ty,es,N,g0⟩)(c:dQ t=some e)(d:es=cg e)(f:0<N)(g:∀j,j<N->dY es (g1 j))
  (h:K (ι N) (S.upd b ⟨ty,es,N,fun j=>if 0<=j/\j<0+N then g1 (j-0)else g0 j⟩)):AM t (.sl es b 0 N) (.lst es N g1) S K:=by
 unfold AM yb;rw[c];simp only[a,DF];exact⟨d,trivial,trivial,om,trivial,f,g,h⟩
def fv.setRow{o e:Nat}(h:fv o e es S1 S b g n m k E)(d:o≠e){i:Nat}(f:i<k){z z':Nat->AV}(p:∀j,j<m->z j=z' j):fv o e es S1 (S.upd (g i) ⟨e,es,m,z⟩) b g n m k (fun a c=>if a=i then z' c else E a c):=by
 refine⟨h.ext.upd (h.rnew i f) _,h.new,h.outer.upd (h.ne d f) _,fun a l=>?_,h.rnew,h.inj⟩;by_cases e:a=i
 .subst e;simp only[aH];exact aY.here p
 .simp only[e,aI];exact(h.row a l).upd (fun q=>e (h.inj a i l f q)) _
def DJ(A:az)(n b b2 b8 b11:Nat)(S:St)(k:Nat)(neg:Bool)(i j:Nat):Prop:=∃(g σ:Nat->Nat) (B:az),ma A n σ neg k/\dr S b g n n B/\(∀i,i<n->g i≠b2/\g i≠b8/\g i≠b11)/\cS S b2 50 2 (ϱ 0)/\cS S b8 50 2 (ϱ (det k (fun a c=>A (σ a) c)))/\cS S b11 50 2 (ϱ (cl (fun a c=>A (σ a) c) k 0 0))/\b8≠b2/\b11≠b2/\b11≠b8/\Ia A n k i j σ B
def DJ.of{p:Nat}{neg:Bool}{z:Nat->AV}(D:ma A n σ neg k)(m:k<p)(E:k<n)(F:p<n)(G:dr (S.upd b X) b (fun i=>g (dq k p i)) n n (fun i j=>B (dq k p i) j))(w:∀i,i<n->g i≠b2/\g i≠b8)
  (V2:cS S b2 50 2 (ϱ 0)) (V5:cS S b8 50 2 (ϱ (det k (fun a c=>A (σ a) c)))) (o:b≠b2) (q:b≠b8) (r:b2≠b8) (d:S b11=ae) (x:dr S b g n n B) (H:Nb A n k σ B) (h:B p k=cl (fun a c=>A (σ a) c) k (p-k) 0) (I:B p k≠0) (J:z 0=ϱ (B p k):=by rfl) :
  DJ A n b b2 b8 b11 ((S.upd b X).upd b11 ⟨50,2,1,z⟩) k (!neg) (k+1) (k+1):=by
 have l:∀i,i<n->dq k p i<n:=fun i f=>by unfold dq;split<;>(try split)<;>omega
 have K:b≠b11:=aY.fresh x.outer d;have y:b2≠b11:=V2.fresh d;have C:b8≠b11:=V5.fresh d;have ng:∀i,i<n->g i≠b11:=fun i f=>aY.fresh (x.row i f) d;have s:=tQ (k:=k) (p:=p) (fun a c=>A (σ a) c) om 0 0;rw[show dq 0 (p-k) 0=p-k by simp[dq],<-h]at s
 refine⟨_,fun a=>σ (dq k p a),_,D.swap m F,G.upd K (fun i f=>ng _ (l i f)) _,fun i f=>⟨(w _ (l i f)).1,(w _ (l i f)).2,ng _ (l i f)⟩,(V2.upd (ai o) _).upd y _,?_,?_,ai r,ai y,ai C,?_,fun a c L t u v=>?_⟩
 .have e:=tR (n:=k) (fun a c=>A (σ a) c) (i:=k) (k:=p) om om;rw[e];exact(V5.upd (ai q) _).upd C _
 .rw[s];exact cS.new J
 .rw[s];exact I
 .rw[ah om];have e:=tQ (k:=k) (p:=p) (fun a c=>A (σ a) c) om (a-k) (c-k);show B (dq k p a) c=_;rw[e,H (dq k p a) c (by unfold dq;split<;>(try split)<;>omega) (l a t) u v]
  congr 1;unfold dq;split<;>(try split)<;>(try split)<;>(try split)<;>omega
def DJ.of0{neg:Bool}{z:Nat->AV}(v:ma A n σ neg k)(e:k<n)(h:dr S b g n n B)(r:∀i,i<n->g i≠b2/\g i≠b8)
  (V2:cS S b2 50 2 (ϱ 0)) (V5:cS S b8 50 2 (ϱ (det k (fun a c=>A (σ a) c)))) (j:b2≠b8) (d:S b11=ae) (s:Nb A n k σ B) (w:B k k≠0) (x:z 0=ϱ (B k k):=by rfl) :
  DJ A n b b2 b8 b11 (S.upd b11 ⟨50,2,1,z⟩) k neg (k+1) (k+1):=by
 have y:b≠b11:=aY.fresh h.outer d;have t:b2≠b11:=V2.fresh d;have u:b8≠b11:=V5.fresh d;have ng:∀i,i<n->g i≠b11:=fun i f=>aY.fresh (h.row i f) d;have l:=s k k (ag _) e (ag _) e;rw[bR]at l;refine⟨g,σ,B,v,h.upd y ng _,fun i f=>⟨(r i f).1,(r i f).2,ng i f⟩,V2.upd t _,V5.upd u _,?_,ai j,ai t,ai u,?_,fun a c m o p q=>?_⟩
 .rw[<-l];exact cS.new x
 .rw[<-l];exact w
 .rw[ah om];exact s a c m o p q
def Au(n K:Nat)(A:az)(h1:1<=n)(h2:n<=16)(hK1:1<=K)(hK:K<=1000000)(hB:∀σ neg k,ma A n σ neg k->∀k' i j,k'+i<n->k'+j<n->nb (cl (fun a b=>A (σ a) b) k' i j) K):PF 130 [aP n n A] (ϱ (det n A)):=by
 refine iy func130 ntmps130 results130 ?_;simp -dsimp only[go_sem,aP,bn];refine ax.intro fun w f2=>?_;simp -dsimp only[go_sem]
 repeat refine an ?_
 refine ax.intro fun bb fb=>?_;have nb_2:=(af fb).1;simp only[go_sem];have hn2:bb≠w:=nb_2;refine aC (fun O S=>∃i:Nat,i<=n/\O 2=ϖ w 0/\O 3=ι n/\O 4=ϑ bb 0 n/\O 19=aP n n A/\O 20=ι n/\O 21=ι i/\∃g',fv 59 50 2 (St.none.upd w ⟨50,2,1,fun _=>ϱ 0⟩) S bb g' n n i (fun a c=>ϱ (A a c))) (fun O S=>n-bO (O 21)) ?_ ?_
 .simp only[go_sem,aP,bn];exact⟨0,om,rfl,fun _=>0,fv.init fb (fun _ _=>rfl) _ _⟩
 rintro O S ⟨i,s,o,t,q,e19,e20,e21,g',hR⟩;by_cases h:i<n
 .obtain⟨g4,u4,v4⟩:=id hR.outer;simp -dsimp only[*,go_sem,aa,aP,bn]
  repeat refine an ?_
  refine ax.intro fun bd fd=>?_;have hdc:bb≠bd:=aY.fresh hR.outer fd;simp -dsimp only[*,go_sem,dL];have hR1:=hR.push dc fd u4 (fun _=>ϱ 0)
  generalize hgg:(fun a=>if a=i then bd else g' a)=gg at hR1
  have hgi:gg i=bd:=by rw[<-hgg];simp
  refine MI (e:=50) (by rw[aE (ai hdc)];exact bW) rfl rfl om (fun j _=>trivial) ?_
  simp only[*,go_sem,aP,bn,aF (om:i<1000000),bO]
  have hR2:=fun(z:Nat->AV) hz=>hR1.setRow dc (om:i<i+1) (z:=z) (z':=fun j=>ϱ (A i j)) hz
  simp only[hgi]at hR2;refine⟨⟨i+1,om,rfl,gg,(hR2 _ ?_).congr fun a c _ _=>?_⟩,om⟩
  .intro j X;simp[X]
  .by_cases e:a=i
   .simp[e]
   .simp[e]
 have hni:n=i:=om
 subst hni;have l:=hR.mat (A:=A) (fun _ _ _ _=>rfl);simp -dsimp only[*,go_sem,aa,cw];refine(fS dc dc).call ?_
 simp -dsimp only[go_sem];refine ax.intro fun H f8=>?_
 try simp only[go_sem,t]
 have hb2:bb≠w:=nb_2;have hg2:∀i,i<n->g' i≠w:=fun i s e=>by have:=l.2.2.2 i s;rw[e,bW]at this;cases this
 have Y:w≠H:=fun e=>by have:=l.2.1 w _ bW;rw[e,f8]at this;cases this
 have Z:bb≠H:=aY.fresh l.1.outer f8;have hg8:∀i,i<n->g' i≠H:=fun i s=>aY.fresh (l.1.row i s) f8;refine aC (fun O S=>∃(k:Nat) (neg:Bool),k<=n/\O 2=ϖ w 0/\O 3=ι n/\O 4=ϑ bb 0 n/\O 7=.bool neg/\O 8=ϖ H 0/\O 39=ι n/\O 40=ι k/\BM A n bb w H S k neg (Nb A n k)) (fun O S=>n-bO (O 40)) ?_ ?_
 .simp only[*,go_sem];refine⟨0,om,false,rfl,rfl,g',id,A,ma.init A n,(l.1.upd Z hg8 _).upd Z hg8 _,fun i s=>⟨hg2 i s,hg8 i s⟩,?_,cS.set,fun i j _ _ _ _=>by rw[eV];rfl⟩
  exact(cS.upd ⟨_,l.2.1 w _ bW,rfl⟩ Y _).upd Y _
 clear l hR o t q e19 e20 e21 f8 hg2 hg8;rintro O S ⟨k,neg,hkn,o,t,q,u,x,d,f,G⟩;by_cases h:k<n
 .simp only[*,go_sem,aa];refine aC (fun O S=>∃p:Nat,k<=p/\p<=n/\O 2=ϖ w 0/\O 3=ι n/\O 4=ϑ bb 0 n/\O 7=.bool neg/\O 8=ϖ H 0/\O 9=ι k/\O 10=ι p/\O 39=ι n/\O 40=ι k/\BM A n bb w H S k neg (StgP A n k p)) (fun O S=>n-bO (O 10)) ?_ ?_
  .simp only[*,go_sem];obtain⟨g,σ,B,r,l,D,V2,V5,hBq⟩:=G;exact⟨k,om,om,rfl,g,σ,B,r,l,D,V2,V5,hBq,fun i h1 h2=>om⟩
  clear G o t q u x d f;rintro O S ⟨p,hkp,hpn,o,t,q,u,x,v,I,d,f,g,σ,B,r,l,D,V2,V5,hQ,hZ⟩;by_cases P:p<n
  case neg =>
   obtain rfl:p=n:=om
   have E:((p:Int)==p)=true:=by simp
   have hz:det p A=0:=r.zero h fun i s=>by
    have:=hQ (k+i) k om om (ag _) h;rw[bR,(om:k+i-k=i)]at this
    rw[<-this];exact hZ _ om om
   obtain⟨gz,uz,xz⟩:=id V2;simp only[go_sem,aa,o,t,q,u,x,v,I,d,f,P,E,uz];rw[hz];exact VR.mf rfl
  obtain⟨g1,W,v1⟩:=l.outer;obtain⟨g2,L,v2⟩:=l.row p P;have v1':g1 p=ϕ (g p) 0 n:=v1 p P;have M:g2 k=ϱ (B p k):=v2 k h;have hbp:=hB σ neg k r k (p-k) 0 om om;have J:=hQ p k hkp P (ag _) h;rw[bR]at J;rw[<-J]at hbp;simp -dsimp only[go_sem,aa,t,q,v,I,P,h,W,L,v1',M];refine(ka hbp om).call ?_;by_cases h0:B p k=0
  .simp -dsimp only[go_sem,aa,o,t,q,u,x,v,I,d,f,P,h,h0,ph,aF (om:p<1000000),bO]
   refine⟨⟨p+1,om,om,rfl,g,σ,B,r,l,D,V2,V5,hQ,fun i h1 h2=>?_⟩,om⟩
   by_cases e:i=p
   .rw[e];exact h0
   .exact hZ i h1 om
  have hs0:((B p k).sign==0)=false:=by
   simp only[fW,yL];rw[iA];exact h0
  have E:((p:Int)==n)=false:=by simp;omega
  apply so (fun O S=>∃(neg:Bool) (m:Nat),O 2=ϖ w 0/\O 3=ι n/\O 4=ϑ bb 0 n/\O 7=.bool neg/\O 8=ϖ H 0/\O 9=ι k/\O 11=ϖ m 0/\O 12=ι ((k+1:Nat):Int)/\O 39=ι n/\O 40=ι k/\DJ A n bb w H m S k neg (k+1) (k+1))
  .intro key;by_cases hkp':k<p
   .have v3':g1 k=ϕ (g k) 0 n:=v1 k h;have hne:((p:Int) != (k:Int))=true:=by simp;omega
    simp -dsimp only[go_sem,aa,o,t,q,u,x,v,I,d,f,P,h,hs0,E,hne];refine fm 13 kr ?_
    have y1:aL (aL g1 k (ϕ (g p) 0 n)) p (ϕ (g k) 0 n) k=ϕ (g p) 0 n:=by simp[aL,(om:¬k=p)]
    have hgp:g p≠bb:=ai (l.outer_ne P);simp -dsimp only[go_sem,aa,q,u,v,I,P,h,W,v1',v3',y1,hgp,L,M];refine ax.intro fun m f11=>?_;simp only[go_sem,aa,q,u,v,M];refine key _ _ ?_;simp only[go_sem,o,t,q,x,v,d,f,aF (om:k<1000000)]
    refine⟨!neg,rfl,m,rfl,?_⟩;rw[lu,lu];have f11':S m=ae:=by rw[lu]at f11;exact(af f11).2
    have hs:∀i,i<n->dq k p i<n:=fun i s=>by unfold dq;split<;>(try split)<;>omega
    have hsw:∀i,dq p k i=dq k p i:=fun i=>by unfold dq;split<;>(try split)<;>(try split)<;>omega
    have G:=l.swap h P om W;simp only[hsw]at G;exact DJ.of r hkp' h P G D V2 V5 hb2 Z Y f11' l hQ J h0
   have hpk:p=k:=om
   subst hpk;have hne:((p:Int) != (p:Int))=false:=by simp
   simp -dsimp only[go_sem,aa,o,t,q,u,x,v,I,d,f,P,hs0,E,hne,W,v1',L,M,aF (om:p<1000000)]
   refine ax.intro fun m f11=>?_;simp only[go_sem,aa,q,v,M];refine key _ _ ?_;simp only[go_sem,o,t,q,u,x,v,d,f,aF (om:p<1000000)]
   refine⟨neg,rfl,m,rfl,?_⟩;rw[lu];exact DJ.of0 r h l D V2 V5 Y f11 hQ h0
  clear o t q u x v I d f hZ hQ V2 V5 D l W v1 L v2 v1' M hbp J h0 hs0 E r;rintro O S ⟨neg,m,o,t,q,u,x,v,y,C,d,f,G⟩;refine aC (fun O S=>∃i:Nat,k+1<=i/\i<=n/\O 2=ϖ w 0/\O 3=ι n/\O 4=ϑ bb 0 n/\O 7=.bool neg/\O 8=ϖ H 0/\O 9=ι k/\O 11=ϖ m 0/\O 12=ι i/\O 39=ι n/\O 40=ι k/\DJ A n bb w H m S k neg i (k+1)) (fun O S=>n-bO (O 12)) ?_ ?_
  .exact⟨k+1,om,om,o,t,q,u,x,v,y,C,d,f,G⟩
  clear o t q u x v y C d f G;rintro O S ⟨i,hki,hin,o,t,q,u,x,v,y,C,d,f,G⟩;by_cases s:i<n
  .simp only[*,go_sem,aa,aF (om:k<1000000)]
   refine aC (fun O S=>∃j:Nat,k+1<=j/\j<=n/\O 2=ϖ w 0/\O 3=ι n/\O 4=ϑ bb 0 n/\O 7=.bool neg/\O 8=ϖ H 0/\O 9=ι k/\O 11=ϖ m 0/\O 12=ι i/\O 13=ι j/\O 39=ι n/\O 40=ι k/\DJ A n bb w H m S k neg i j) (fun O S=>n-bO (O 13)) ?_ ?_
   .simp only[*,go_sem];exact⟨k+1,om,om,rfl,G⟩
   clear o t q u x v y C d f G;rintro O S ⟨j,hkj,hjn,o,t,q,u,x,v,y,C,e13,d,f,G⟩;by_cases X:j<n
   .obtain⟨g,σ,B,r,l,D,V2,V5,V11,n1,n2,n3,Q,F⟩:=G;obtain⟨g1,W,v1⟩:=l.outer;obtain⟨g2,L,v2⟩:=l.row i s;obtain⟨g3,u3,v3⟩:=l.row k h;obtain⟨gp,up',vp⟩:=id V11;have w1:g1 i=ϕ (g i) 0 n:=v1 i s;have w2:g1 k=ϕ (g k) 0 n:=v1 k h;have w3:g2 j=ϱ (B i j):=v2 j X;have w4:g2 k=ϱ (B i k):=v2 k h;have w5:g3 j=ϱ (B k j):=v3 j X;have c1:=F i j om s om X;have c2:=F i k om s (ag _) h;have c3:=F k j (ag _) h om X;rw[ah om]at c1 c2 c3;rw[bR]at c2 c3;have m1:=hB σ neg k r k (i-k) (j-k) om om;have m2:=hB σ neg k r k (i-k) 0 om om;have m3:=hB σ neg k r k 0 (j-k) om om;have m4:=hB σ neg k r k 0 0 om om;rw[<-c1]at m1;rw[<-c2]at m2;rw[<-c3]at m3;have m5:nb (det k (fun a c=>A (σ a) c)) K:=by
     by_cases e:k=0
     .rw[e];simp only[det];exact nb.one om
     .have:=hB σ neg k r (k-1) 0 0 om om;rw[cH,(om:k-1+1=k)]at this
      exact this
    have hst:=ie r.lead (i-k-1) (j-k-1);rw[(om:i-k-1+1=i-k),(om:j-k-1+1=j-k),<-c1,<-c2,<-c3]at hst
    have hd0:=r.lead k (ag _);generalize hpv:cl (fun a c=>A (σ a) c) k 0 0=pv at *;have hq:(pv*B i j-B i k*B k j)/det k (fun a c=>A (σ a) c)=cl (fun a c=>A (σ a) c) (k+1) (i-k-1) (j-k-1):=by
     rw[hst,cn _ hd0]
    simp -dsimp only[*,go_sem,aa];refine aN 26 kr ?_
    simp -dsimp only[go_sem,aa,q,v,y,C,e13,s,X,h,W,w1,w2,L,u3,w3,w4,w5,up',vp];refine⟨_,(gL m4 m1 om).pure',_,(gL m2 m3 om).pure',_,(mG (m4.mul m1) (m2.mul m3) om).pure',?_⟩;refine ax.intro fun N R=>?_
    try simp -dsimp only[go_sem]
    have q1:bb≠N:=aY.fresh l.outer R;have q2:∀a,a<n->g a≠N:=fun a ha=>aY.fresh (l.row a ha) R;have q3:w≠N:=V2.fresh R;have q4:H≠N:=V5.fresh R;have q5:m≠N:=V11.fresh R;refine k9 (fun T=>dr T bb g n n B/\cS T w 50 2 (ϱ 0)/\cS T H 50 2 (ϱ (det k (fun a c=>A (σ a) c)))/\cS T m 50 2 (ϱ pv)/\cS T N 50 2 (ϱ (pv*B i j-B i k*B k j))) ?_ ?_
    .refine⟨(l.upd q1 q2 _).upd q1 q2 _,(V2.upd q3 _).upd q3 _,(V5.upd q4 _).upd q4 _,(V11.upd q5 _).upd q5 _,?_⟩;simp only[cS.at_hit,aL,aH]
    clear l V2 V5 V11 W v1 L v2 u3 v3 up' vp w1 w2 w3 w4 w5;rintro T ⟨l,V2,V5,V11,V14⟩;obtain⟨g1,W,v1⟩:=l.outer;obtain⟨g2,L,v2⟩:=l.row i s;obtain⟨g8,u8,x8⟩:=id V5;obtain⟨g14,u14,x14⟩:=id V14;have w1:g1 i=ϕ (g i) 0 n:=v1 i s;refine eO 13 [[10,11]] kr ?_
    simp only[go_sem,aa,o,t,q,u,x,v,y,C,e13,d,f,s,X,W,w1,L,u8,x8,u14,x14];refine⟨_,(ft (k:=K+K+1) ((m4.mul m1).sub (m2.mul m3)) (m5.mono om) om hd0).pure',?_⟩;rw[hq];simp only[go_sem,aF (om:j<1000000),bO]
    refine⟨⟨j+1,om,om,rfl,g,σ,_,r,l.set s L,D,cS.upd V2 (ai (D i s).1) _,cS.upd V5 (ai (D i s).2.1) _,by rw[hpv];exact cS.upd V11 (ai (D i s).2.2) _,n1,n2,n3,by rw[hpv];exact Q,fun a c ha1 U hc1 V=>?_⟩,om⟩
    have h3:=F a c ha1 U hc1 V;simp only[dU];by_cases e1:a=i/\c=j
    .obtain⟨rfl,rfl⟩:=e1;rw[aj ⟨rfl,rfl⟩,aj om,mO,mO]
    .rw[ah e1,h3];by_cases o:k<a/\k<c/\(a<i∨a=i/\c<j)
     .rw[aj o,aj om]
     .rw[ah o,ah om]
   have hnj:n=j:=om
   obtain⟨g,σ,B,r,l,D,V2,V5,V11,n1,n2,n3,Q,F⟩:=G;simp only[go_sem,aa,o,t,q,u,x,v,y,C,e13,d,f,X,aF (om:i<1000000),bO]
   refine⟨⟨i+1,om,om,rfl,g,σ,B,r,l,D,V2,V5,V11,n1,n2,n3,Q,fun a c ha1 U hc1 V=>?_⟩,om⟩
   rw[F a c ha1 U hc1 V];by_cases o:k<a/\k<c/\(a<i∨a=i/\c<j)
   .rw[aj o,aj om]
   .rw[ah o,ah om]
  have hni:n=i:=om
  obtain⟨g,σ,B,r,l,D,V2,V5,V11,n1,n2,n3,Q,F⟩:=G;obtain⟨g8,u8,x8⟩:=id V5;obtain⟨gp,up',vp⟩:=id V11;simp only[go_sem,aa,o,t,q,u,x,v,y,C,d,f,s,u8,up',vp,aF (om:k<1000000),bO]
  refine⟨⟨k+1,om,neg,rfl,rfl,g,σ,B,r.step Q,l.upd Z (fun a ha=>(D a ha).2.1) _,fun a ha=>⟨(D a ha).1,(D a ha).2.1⟩,V2.upd (ai n1) _,by rw[<-cH];exact cS.set,fun a c ha1 U hc1 V=>?_⟩,om⟩
  rw[F a c om U om V,aj om]
 have hnk:n=k:=om
 subst hnk;obtain⟨g,σ,B,r,l,D,V2,V5,hQ⟩:=G;obtain⟨g2,L,x2⟩:=id V2;obtain⟨g8,u8,x8⟩:=id V5;have m5:nb (det n (fun a c=>A (σ a) c)) K:=by
  have:=hB σ neg n r (n-1) 0 0 om om;rw[cH,(om:n-1+1=n)]at this
  exact this
 have hdet:=r.sign
 cases neg with
 | true =>
  simp -dsimp only[go_sem,aa,u,x,d,f,cw,u8,x8];refine(td m5 om).call ?_;simp only[go_sem,aa,o,L,x8];have e:-det n (fun a c=>A (σ a) c)=det n A:=by rw[hdet];simp
  simp only[aL,aH];rw[e];exact VR.mf rfl
 | false =>
  simp -dsimp only[go_sem,aa,u,x,d,f,cw,u8,x8];refine(sd m5 om).call ?_;simp only[go_sem,aa,o,L,x8];have e:det n (fun a c=>A (σ a) c)=det n A:=by rw[hdet];simp
  simp only[aL,aH];rw[e];exact VR.mf rfl
def Dm(d:n<=16)(c:∀i j,i<n->j<n->nb (A i j) k0)(k i j:Nat)(e:k+i<n)(f:k+j<n):nb (cl A k i j) (17*(k0+10)):=by
 unfold cl;refine(lw (k:=k0) (k+1) _ om fun a b g h=>c _ _ ?_ ?_).mono ?_
 .rw[kf];split<;>omega
 .rw[kf];split<;>omega
 .have:=aq (k0+10) (om:k+1<=16)
  omega
def uJ(e:n<=16)(f:∀i j,i<n->j<n->nb (A i j) k0)(σ:Nat->Nat)(neg:Bool)(k:Nat)(g:ma A n σ neg k)(k' i j:Nat)(c:k'+i<n)(d:k'+j<n):nb (cl (fun a b=>A (σ a) b) k' i j) (17*(k0+10)) :=
 Dm e (fun i j c d=>f _ j (g.row i c) d) k' i j c d
def Be(n K:Nat)(A:az)(c:1<=n)(d:n<=16)(e:1<=K)(f:K<=1000000)(g:∀σ neg k,ma A n σ neg k->∀k' i j,k'+i<n->k'+j<n->nb (cl (fun a b=>A (σ a) b) k' i j) K):PF 79 [aP n n A] (.tup [ϱ (det n A),.bool true]):=by
 refine iy func79 ntmps79 results79 ?_;simp -dsimp only[go_sem,aP,bn];refine ax.intro fun h m=>?_
 try simp -dsimp only[go_sem]
 refine(ld n n A c d c d).call ?_;simp -dsimp only[go_sem,aa,show((n:Int) != n)=false by simp]
 refine(Au n K A c d e f g).call ?_;simp only[go_sem,aa,aL];exact VR.tup (l:=[ϱ (det n A),.bool true]) (by simp[rm])
def Bf(n K:Nat)(A:az)(d:1<=n)(e:n<=16)(c:1<=K)(f:K<=1000000)(_hd:det n A≠0)(g:∀σ neg k,ma A n σ neg k->∀k' i j,k'+i<n->k'+j<n->nb (cl (fun a b=>A (σ a) b) k' i j) K):PF 79 [aP n n A] (.tup [ϱ (det n A),.bool true]):=Be n K A d e c f g

def jk(k0:Nat):Nat->Nat
 | 0=>k0
 | k+1=>jk k0 k+jk k0 k+60
theorem pL(a:Nat):∀k,a<=jk a k
 | 0=>ag _
 | k+1=>by have:=pL a k;simp only[jk];omega
def yS(b:Nat)(c:b<=300):∀k,k<=8->jk b k<=100000:=by
 intro k a
 match k,a with
 | 0,_=>simp only[jk];omega
 | 1,_=>simp only[jk];omega
 | 2,_=>simp only[jk];omega
 | 3,_=>simp only[jk];omega
 | 4,_=>simp only[jk];omega
 | 5,_=>simp only[jk];omega
 | 6,_=>simp only[jk];omega
 | 7,_=>simp only[jk];omega
 | 8,_=>simp only[jk];omega
def I7(h:n<=9)(c:∀i j,i<n->j<n->nb (A i j) k)(d:∀i j,i<n->j<n->nb (B i j) k){i j:Nat}(e:i<n)(g:j<n):nb (mm n A B i j) (k+k+9):=by
 have:=me (f:=fun a=>A i a*B a j) (k:=k+k) n (fun a b=>(c i a e b).mul (d a j b g));exact this.mono om
def Lt(c:n<=9)(b:∀i j,i<n->j<n->nb (A i j) k):∀t,t<=n->nb (ap t (fun a=>A a a)) (k+9):=fun t d =>
 (me (f:=fun a=>A a a) (k:=k) t (fun a e=>b a a om om)).mono om
def uK{b:Int}(c:nb a k):nb (a/b) (k+1):=by
 have h:(a/b).natAbs<=a.natAbs:=jD a b;exact(nb.of_le h c).mono om
theorem Al{n k0:Nat}{M:az}(c:n<=9)(d:1<=k0)(e:∀i j,i<n->j<n->nb (M i j) k0):∀k i j,i<n->j<n->nb (ru n M k i j) (jk k0 k)
 | 0,i,j,_,_=>by
  simp only[ru,jk];split
  .exact nb.one d
  .exact nb.zero _
 | k+1,i,j,a,b=>by
  have ih:=Al c d e k;have g:=pL k0 k;have f:∀i j,i<n->j<n->nb (mm n M (ru n M k) i j) (jk k0 k+jk k0 k+9):=fun i j a b=>I7 c (fun i j a b=>(e i j a b).mono g) ih a b;simp only[ru,jk];have h:nb (if i=j then tr n (mm n M (ru n M k))/(-((k+1:Nat):Int))else 0) (jk k0 k+jk k0 k+19):=by
   split
   .exact uK (Lt c f n (ag _))
   .exact nb.zero _
  exact(((f i j a b).mono om).add h).mono om
def rG(n m:Nat)(M:az)(t:1<=n)(u:n<=9)(v:1<=m)(hk:m<=300)(L:∀i j,i<n->j<n->nb (M i j) m):MF 129 [aP n n M] n n (iq n M):=by
 refine MF.of ?_;refine jg func129 ntmps129 results129 ?_;simp -dsimp only[go_sem,aa,aP,bn];refine(fS dc dc).call ?_
 simp -dsimp only[go_sem,aa];refine(B8 n 1 1 om (nb.one om) om _ _ (cD _ _)).mono ?_;rintro _ S1 ⟨b,g,rfl,f,_⟩;simp only[go_sem];refine aC (fun O S=>∃k:Nat,1<=k/\k<=n/\O 0=aP n n M/\O 3=ι n/\O 5=ι k/\∃b,O 4=ϑ b 0 n/\∃g,dr S b g n n (ru n M (k-1))) (fun O S=>n-bO (O 5)) ?_ ?_
 .simp only[go_sem,aP,bn];exact⟨1,om,t,rfl,b,rfl,g,f⟩
 clear f;rintro O S ⟨k,hk2,hkn,w,r,s,b,x,g,f⟩;by_cases hlt:k<n
 .have N:=yS m hk (k-1) om;have P:=pL m (k-1);have G:=Al u v L (k-1);have y:∀i j,i<n->j<n->nb (M i j) (jk m (k-1)):=fun i j z Q=>(L i j z Q).mono P;have H:∀i j,i<n->j<n->nb (mm n M (ru n M (k-1)) i j) (jk m (k-1)+jk m (k-1)+9):=fun i j z Q=>I7 u y G z Q;simp -dsimp only[*,go_sem,aa,aP,bn];refine(oo n n n (jk m (k-1)) M (ru n M (k-1)) t om t om t om y G om _ _ (eM.two (VA.refl _ _) f.vr.va)).mono ?_;rintro _ S2 ⟨bc,g',rfl,l,_⟩;generalize R:mm n M (ru n M (k-1))=X at *;simp -dsimp only[*,go_sem];refine ax.intro fun I T=>?_
  try simp only[go_sem,r]
  have U:bc≠I:=aY.fresh l.outer T;have V:∀a,a<n->g' a≠I:=fun a o=>aY.fresh (l.row a o) T;refine aC (fun O S=>∃i:Nat,i<=n/\O 0=aP n n M/\O 3=ι n/\O 4=ϑ bc 0 n/\O 5=ι k/\O 6=ϖ I 0/\O 29=ι n/\O 30=ι i/\dr S bc g' n n X/\cS S I 50 2 (ϱ (ap i fun a=>X a a))) (fun O S=>n-bO (O 30)) ?_ ?_
  .simp only[*,go_sem];exact⟨0,om,rfl,(l.upd U V _).upd U V _,cS.set⟩
  clear l w r x s T f;rintro O S ⟨i,z,w,r,x,s,e6,B,C,f,V6⟩;obtain⟨g6,u6,x6⟩:=id V6;by_cases d:i<n
  .obtain⟨W,u1,Y⟩:=f.outer;obtain⟨Z,u2,v2⟩:=f.row i d;have x1:W i=ϕ (g' i) 0 n:=Y i d;have x2:Z i=ϱ (X i i):=v2 i d;simp -dsimp only[*,go_sem];refine aN 9 kr ?_
   simp only[*,go_sem,aa,aF (om:i<1000000),bO]
   exact⟨_,(l6 (Lt u H i om) ((H i i d d).mono om) om).pure',trivial,⟨i+1,om,rfl,f.upd U V _,cS.set⟩,om⟩
  have p:n=i:=om
  simp -dsimp only[go_sem,B,C,d];have wk:ω (0-(k:Int))=-(k:Int):=by rw[Ew];exact i64_in om om
  refine iz 11 [[7,8],[8],[]] kr ?_
  simp -dsimp only[go_sem,aa,s,e6,u6,x6,wk];have nt:=Lt u H n (ag _);subst p;refine⟨_,(fS om om).pure',_,(ft nt (b:=-(k:Int)) ((show nb (-(k:Int)) 4 by unfold nb;omega).mono om) om om).pure',?_⟩
  simp -dsimp only[go_sem];refine ax.intro fun J f8=>?_
  try simp -dsimp only[go_sem]
  refine ax.intro fun b9 K=>?_;have n9_8:=(af K).1;simp only[*,go_sem,ai n9_8];have r1:bc≠J:=aY.fresh f.outer f8;have r2:∀a,a<n->g' a≠J:=fun a o=>aY.fresh (f.row a o) f8;have r3:bc≠b9:=aY.fresh f.outer (af K).2;have r4:∀a,a<n->g' a≠b9:=fun a o=>aY.fresh (f.row a o) (af K).2;generalize hq:(ap n fun a=>X a a) / -(k:Int)=q at *;have nq:nb q (jk m (k-1)+jk m (k-1)+19):=by rw[<-hq];exact uK nt
  refine aC (fun O S=>∃i:Nat,i<=n/\O 0=aP n n M/\O 3=ι n/\O 4=ϑ bc 0 n/\O 5=ι k/\O 8=ϖ J 0/\O 52=ι n/\O 53=ι i/\dr S bc g' n n (fun a c=>X a c+if a=c/\a<i then q else 0)/\cS S J 50 2 (ϱ q)) (fun O S=>n-bO (O 53)) ?_ ?_
  .simp only[*,go_sem];refine⟨0,om,rfl,rfl,dr.congr (A:=X) ?_ (fun a c _ _=>by simp),?_⟩
   .repeat' first|exact f|refine dr.upd ?_ (by assumption) (by assumption) _
   .simp only[cS.at_hit,cS.at_miss,yL,ia,aL,aH,ai n9_8]
  clear f w r x s e6 B C f8 K d V6 u6 x6;rintro O S ⟨i,z,w,r,x,s,e8,e52,e53,f,V8⟩;obtain⟨g8,u8,x8⟩:=id V8;by_cases d:i<n
  .obtain⟨W,u1,Y⟩:=f.outer;obtain⟨Z,u2,v2⟩:=f.row i d;have x1:W i=ϕ (g' i) 0 n:=Y i d;have x2:Z i=ϱ (X i i):=(v2 i d).trans sm
   simp -dsimp only[*,go_sem];refine aN 15 kr ?_
   simp only[go_sem,aa,w,r,x,s,e8,e52,e53,d,u1,x1,u2,x2,u8,x8,aF (om:i<1000000),bO]
   refine⟨_,(l6 ((H i i d d).mono om) nq om).pure',trivial,⟨i+1,om,rfl,(f.set d u2).congr fun a c _ _=>?_,V8.upd (ai (r2 i d)) _⟩,om⟩
   simp only[dU];by_cases e:a=i/\c=i
   .obtain⟨rfl,rfl⟩:=e;simp
   .rw[ah e];by_cases e2:a=c/\a<i
    .rw[aj e2,aj ⟨e2.1,om⟩]
    .rw[ah e2,ah om]
  have p:n=i:=om
  subst p;simp only[*,go_sem,cw,aF (om:k<1000000),bO]
  refine⟨⟨k+1,om,om,rfl,rfl,bc,rfl,g',f.congr fun a c o _=>?_⟩,om⟩
  rw[(om:k+1-1=(k-1)+1)]
  simp only[ru,R];congr 1;by_cases e:a=c
  .rw[aj ⟨e,o⟩,aj e,<-hq,show((k-1+1:Nat):Int)=(k:Int) by omega];rfl
  .rw[ah (fun h=>e h.1),ah e]
 have D:n=k:=om
 subst D;have G:=Al u v L (n-1);have N:=yS m hk (n-1) om;by_cases E:n%2=0
 .have F:(et (n:Int) 2==0)=true:=by rw[aJ om,vV];omega
  simp -dsimp only[*,go_sem,aa,cw,show ¬((2:Int)=0) by decide]
  refine(zY n n _ (ru n M (n-1)) t om om G om _ _ (eM.one f.vr.va)).mono ?_;rintro _ S2 ⟨c,g',rfl,l,_⟩;simp only[go_sem];exact⟨c,rfl,g',l.congr fun a c _ _=>by simp[iq,E]⟩
 .have F:(et (n:Int) 2==0)=false:=by rw[aJ om,fW];omega
  simp only[*,go_sem,aa,cw,show ¬((2:Int)=0) by decide]
  exact⟨b,rfl,g,f.congr fun a c _ _=>by simp[iq,E]⟩
def vT(n a:Nat)(M:az)(c:1<=n)(e:n<=9)(d:1<=a)(f:a<=300)(h:∀i j,i<n->j<n->nb (M i j) a):CF 78 [aP n n M] n n (iq n M):=by
 refine CF.of ?_;refine jg func78 ntmps78 results78 ?_;simp -dsimp only[go_sem,aa,aP,bn];refine(ld n n M c om c om).call ?_;simp -dsimp only[go_sem,aa,show((n:Int) != n)=false by simp]
 refine(rG n a M c e d f h _ _ (cD _ _)).mono ?_;rintro _ S1 ⟨b,g,rfl,k,_⟩;simp only[go_sem];exact⟨b,rfl,g,k⟩

end Go.Proofs.YtdobfmlmenaajaaGreatDoor
