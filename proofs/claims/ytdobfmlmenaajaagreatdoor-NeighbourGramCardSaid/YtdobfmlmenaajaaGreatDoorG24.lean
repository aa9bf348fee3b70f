/-
  Lemmas for NeighbourGram.
-/
import Derived.Test.YtdobfmlmenaajaaGreatDoorG23
import Derived.Test.YtdobfmlmenaajaaGreatDoorG16
namespace Go.Proofs.YtdobfmlmenaajaaGreatDoor
open Go.RowKit Tryz
open _root_.Int renaming tmod→eN,tdiv→oZ
open _root_.Option renaming none→ab
set_option maxHeartbeats 6400000
set_option maxRecDepth 4096
set_option linter.all false
attribute [local go_sem] Nat.reduceAdd Nat.reduceEqDiff Nat.reduceLeDiff Nat.reduceLT reduceCtorEq Int.ofNat_lt decide_true decide_false Int.zero_le_ofNat
attribute [local go_sem ↓] reduceIte
variable{x x' z:AV}{d:Int}{args l l':List AV}{b b9 es f i j k m n t ty:Nat}{v:Nat->Int}{c g g':Nat->Nat}{S S' S0:St}{A:aJ}{X:eE}
def sI(n m:Nat)(A:aJ)(g:1<=n)(h:n<=16)(j:1<=m)(k:m<=16):PF 223 [aD n m A] (.bool true):=by
 refine iQ func223 ntmps223 results223 ?_;have b:0<n:=om
 have a:(0:Int)<(n:Int):=om
 simp only[go_sem,aV,aD,a,(om:¬((n:Int)<1)),(om:¬((16:Int)<(n:Int))),(om:¬((m:Int)<1)),(om:¬((16:Int)<(m:Int)))]
 refine aH (fun O S=>∃i:Nat,i<=n/\O 0=aD n m A/\O 27=aD n m A/\O 28=.int .i64 n/\O 29=.int .i64 i) (fun O S=>n-ca (O 29)) ?_ ?_
 .simp only[go_sem,aV,aD];exact⟨0,om,rfl⟩
 .rintro O S ⟨i,l,o,c,d,e⟩;by_cases f:i<n
  .simp only[*,go_sem,aV,aD,show((m:Int) != m)=false by simp,aT (om:i<1000000),ca]
   exact⟨⟨i+1,om,rfl⟩,om⟩
  .simp only[*,go_sem,aV,aD];exact VR.mf rfl
def kJ(m:Int)(a:2<=m)(b:m<=2147483647):PF 224 [.int .i64 m] (.int .i64 0):=by
 refine iQ func224 ntmps224 results224 ?_;simp only[go_sem,(om:¬(m<2)),(om:¬((2147483647:Int)<m))]
 exact VR.mf rfl
def vV(n:Nat)(A:aJ)(b:1<=n)(d:n<=8):PF 226 [aD n n A] (.bool true):=by
 refine iQ func226 ntmps226 results226 ?_;have c:0<n:=om
 have a:(0:Int)<(n:Int):=om
 simp -dsimp only[go_sem,aa];refine(sI n n A b om b om).call ?_;simp only[go_sem,aV,aD,a,show((n:Int)<=8) by omega,show((n:Int)==n)=true by simp]
 exact VR.mf rfl
def Eb{x m:Int}(d:1<=m)(a:m<=2147483647):IntKind.i64.wrap (eN x m+m)=eN x m+m/\eN (eN x m+m) m=x%m:=by
 have e:eN x m<m:=Te x om;have f:-m<eN x m:=by
  have:=Te (-x) (om:0<m)
  rw[QL]at this;omega
 have b:eN (eN x m+m) m=x%m:=by
  rw[aK om,Int.add_emod_right];have g:x=m*oZ x m+eN x m:=(wJ x m).symm;have c:x%m=(eN x m+m*oZ x m)%m:=by rw[<-(om:x=eN x m+m*oZ x m)]
  rw[c,qc]
 have h:=aU x (om:m≠0)
 have i:=aS x (om:0<m)
 exact⟨i64_in om om,b⟩
def lz(A:aJ)(m:Int):aJ:=fun i j=>A i j%m
def mc(n k:Nat)(A:aJ)(m:Int)(L:n<=16)(M:k<=16)(E:1<=m)(p:m<=2147483647):QQ 225 [aD n k A,.int .i64 m] n k (lz A m):=by
 refine QQ.of ?_;refine jr func225 ntmps225 results225 ?_;have q:¬(m=0):=om
 simp -dsimp only[go_sem,aV,aD]
 repeat refine an ?_
 refine aG.intro fun bc fc=>?_;simp only[go_sem];refine aH (fun O S'=>∃i:Nat,i<=n/\O 1=.int .i64 m/\O 5=.sl 1 bc 0 n/\O 13=aD n k A/\O 14=.int .i64 n/\O 15=.int .i64 i/\∃g',ft 29 2 1 St.none S' bc g' n k i (fun a j=>.int .i64 (lz A m a j))) (fun O S=>n-ca (O 15)) ?_ ?_
 .simp only[go_sem,aV,aD];exact⟨0,om,rfl,fun _=>0,ft.init fc (fun _ _=>rfl) _ _⟩
 .rintro O S' ⟨i,N,r,s,d,f,g,g',b⟩;by_cases l:i<n
  .obtain⟨B,o,t⟩:=id b.outer;simp -dsimp only[*,go_sem,aa,aD,aV]
   repeat refine an ?_
   refine aG.intro fun bd fd=>?_;have F:bc≠bd:=bJ.fresh b.outer fd;simp only[*,go_sem];have h:=b.push dc fd o (fun _=>.int .i64 0)
   generalize u:(fun a=>if a=i then bd else g' a)=gg at h
   refine aH (fun O S'=>∃j:Nat,j<=k/\O 1=.int .i64 m/\O 5=.sl 1 bc 0 n/\O 6=.int .i64 i/\O 13=aD n k A/\O 14=.int .i64 n/\O 15=.int .i64 i/\O 26=aV k (A i)/\O 27=.int .i64 k/\O 28=.int .i64 j/\ft 29 2 1 St.none S' bc gg n k (i+1) (fun a c=>.int .i64 (if a=i/\j<=c then 0 else lz A m a c))) (fun O S=>k-ca (O 28)) ?_ ?_
   .simp only[*,go_sem,aD,aV];refine⟨0,om,rfl,h.congr fun a c _ _=>?_⟩
    by_cases e:a=i
    .simp[e]
    .simp[e]
   .clear r s d f g b h o t u;rintro O S' ⟨j,P,r,s,G,d,f,g,v,w,y,b⟩;by_cases z:j<k
    .obtain⟨B,o,t⟩:=id b.outer;obtain⟨Q,C,R⟩:=id (b.row i om);have H:B i=.sl 1 (gg i) 0 k:=(t i l).trans (ai om);obtain⟨I,J⟩:=Eb (x:=A i j) E p;simp -dsimp only[*,go_sem,aD,aV];refine bF 13 kr ?_
     simp only[go_sem,aa,aD,aV,r,s,G,d,f,g,v,w,y,l,z,o,H,C,q,I,J,aT (om:j<1000000),ca]
     refine⟨⟨j+1,om,rfl,(b.put dc (om:i<i+1) C j (.int .i64 (lz A m i j))).congr fun a c _ _=>?_⟩,om⟩
     by_cases e:a=i/\c=j
     .obtain⟨rfl,rfl⟩:=e;rw[ai ⟨rfl,rfl⟩,af om]
     .rw[af e];congr 1;by_cases D:a=i/\j<=c
      .rw[ai D,ai om]
      .rw[af D,af om]
    .simp only[*,go_sem,aD,aV,aT (om:i<1000000),ca]
     exact⟨⟨i+1,om,rfl,gg,b.congr fun a c _ T=>by rw[af om]⟩,om⟩
  .obtain rfl:i=n:=om
   have K:=b.imat (A:=lz A m) (fun _ _ _ _=>rfl);simp only[*,go_sem,aa,aD,aV];exact⟨bc,rfl,g',K.1⟩
def Fz(f:Nat)(args:List AV)(n m:Nat)(A:Nat->Nat->Int):Prop:=∀S args',fD S args' args->cE f args' S (fun r S'=>∃b g,r=.tup [.sl 1 b 0 n,.int .i64 0]/\iE S S' b g n m A)
def Fz.of{A:Nat->Nat->Int}(h:cE f args St.none (fun r S'=>∃b g,r=.tup [.sl 1 b 0 n,.int .i64 0]/\eh S' b g n m A)):Fz f args n m A:=fun S args' c=>by
 have d:cE f args St.none (fun r S'=>∃b g,r=.tup [.sl 1 b 0 n,.int .i64 0]/\eh S' b g n m A/\KI S'):=h.less fun r S' ⟨b,g,e,a⟩=>⟨gL S' b g n,jm S' b g n,b,g,e,a.only.1,a.only.2⟩;refine(d.frame c ?_).mono ?_
 .rintro r S1 ⟨b,g,rfl,_,i⟩;exact⟨rfl,i⟩
 .rintro r S' ⟨S1,⟨b,g,rfl,a,_⟩,j,rfl⟩;exact⟨b,g,rfl,a.join j⟩
def wF(n k:Nat)(A:aJ)(m:Int)(e:1<=n)(c:n<=16)(f:1<=k)(d:k<=16)(h:2<=m)(a:m<=2147483647):Fz 176 [aD n k A,.int .i64 m] n k (lz A m):=by
 refine Fz.of ?_;refine jr func176 ntmps176 results176 ?_;simp -dsimp only[go_sem,aa];refine(sI n k A e c f d).call ?_;simp -dsimp only[go_sem,aa];refine(kJ m h a).call ?_;simp -dsimp only[go_sem,aa];refine(mc n k A m c d om a _ _ (cI _ _)).mono ?_;rintro _ S' ⟨b,g,rfl,i⟩;simp only[go_sem];exact⟨b,rfl,g,i.1⟩
def kA(A B:aJ)(K:Nat)(m:Int):aJ:=fun i j=>(az K fun t=>A i t*B t j)%m
def Gh(n K l:Nat)(A B:aJ)(m:Int)(hn:n<=16)(hK:1<=K)(M:K<=16)(hl:l<=16)(hm:1<=m)(N:m<=2147483647)(P:∀i j,i<n->j<K->0<=A i j/\A i j<m)(Q:∀i j,i<K->j<l->0<=B i j/\B i j<m):QQ 231 [aD n K A,aD K l B,.int .i64 m] n l (kA A B K m):=by
 refine QQ.of ?_;refine jr func231 ntmps231 results231 ?_;have y:¬(m=0):=om
 have R:0<K:=om
 have T:(0:Int)<(K:Int):=om
 simp -dsimp only[go_sem,aV,aD]
 repeat refine an ?_
 refine aG.intro fun bc fc=>?_;simp only[go_sem];refine aH (fun O S'=>∃i:Nat,i<=n/\O 1=aD K l B/\O 2=.int .i64 m/\O 7=.sl 1 bc 0 n/\O 17=aD n K A/\O 18=.int .i64 n/\O 19=.int .i64 i/\∃g',ft 29 2 1 St.none S' bc g' n l i (fun a j=>.int .i64 (kA A B K m a j))) (fun O S=>n-ca (O 19)) ?_ ?_
 .simp only[go_sem,aV,aD];exact⟨0,om,rfl,fun _=>0,ft.init fc (fun _ _=>rfl) _ _⟩
 .rintro O S' ⟨i,hi,u,h,v,d,f,g,g',b⟩;by_cases o:i<n
  .obtain⟨I,x,z⟩:=id b.outer;simp -dsimp only[*,go_sem,aa,aD,aV]
   repeat refine an ?_
   refine aG.intro fun bd fd=>?_;have U:bc≠bd:=bJ.fresh b.outer fd;simp only[*,go_sem];have p:=b.push dc fd x (fun _=>.int .i64 0)
   generalize C:(fun a=>if a=i then bd else g' a)=gg at p
   refine aH (fun O S'=>∃k:Nat,k<=K/\O 1=aD K l B/\O 2=.int .i64 m/\O 7=.sl 1 bc 0 n/\O 8=.int .i64 i/\O 17=aD n K A/\O 18=.int .i64 n/\O 19=.int .i64 i/\O 32=aV K (A i)/\O 33=.int .i64 K/\O 34=.int .i64 k/\ft 29 2 1 St.none S' bc gg n l (i+1) (fun a c=>.int .i64 (if a=i then kA A B k m i c else kA A B K m a c))) (fun O S=>K-ca (O 34)) ?_ ?_
   .simp only[*,go_sem,aD,aV];refine⟨0,om,rfl,p.congr fun a c _ _=>?_⟩
    by_cases e:a=i
    .simp[e,kA,az]
    .simp[e]
   .clear u h v d f g b p x z C;rintro O S' ⟨k,hk,u,h,v,D,d,f,g,q,r,s,b⟩;by_cases w:k<K
    .simp only[*,go_sem,aD,aV];refine aH (fun O S'=>∃j:Nat,j<=l/\O 1=aD K l B/\O 2=.int .i64 m/\O 7=.sl 1 bc 0 n/\O 8=.int .i64 i/\O 11=.int .i64 (A i k)/\O 17=aD n K A/\O 18=.int .i64 n/\O 19=.int .i64 i/\O 32=aV K (A i)/\O 33=.int .i64 K/\O 34=.int .i64 k/\O 42=aV l (B k)/\O 43=.int .i64 l/\O 44=.int .i64 j/\ft 29 2 1 St.none S' bc gg n l (i+1) (fun a c=>.int .i64 (if a=i then(if c<j then kA A B (k+1) m i c else kA A B k m i c)else kA A B K m a c))) (fun O S=>l-ca (O 44)) ?_ ?_
     .simp only[*,go_sem,aD,aV];exact⟨0,om,rfl,b.congr fun a c _ _=>by simp⟩
     .clear u h v D d f g q r s b;rintro O S' ⟨j,hj,u,h,v,D,E,d,f,g,q,r,s,F,G,H,b⟩;by_cases t:j<l
      .obtain⟨I,x,z⟩:=id b.outer;obtain⟨V,J,W⟩:=id (b.row i om);have X:I i=.sl 1 (gg i) 0 l:=(z i o).trans (ai om);have Y:V j=.int .i64 (kA A B k m i j):=(W j t).trans sm
       have b1:=P i k o w;have b2:=Q k j w t;have b3:0<=kA A B k m i j/\kA A B k m i j<m:=⟨aU _ om,aS _ om⟩;have b4:=nH (A:=2147483646) (B:=2147483646) (om:0<=A i k/\A i k<=2147483646) (om:0<=B k j/\B k j<=2147483646)
       have Z:IntKind.i64.wrap (A i k*B k j)=A i k*B k j:=i64_in om om;have q2:IntKind.i64.wrap (kA A B k m i j+A i k*B k j)=kA A B k m i j+A i k*B k j:=i64_in om om;have q3:eN (kA A B k m i j+A i k*B k j) m=kA A B (k+1) m i j:=by
        rw[aK om];simp only[kA,az];rw[Int.emod_add_emod]
       simp -dsimp only[*,go_sem,aD,aV];refine bF 19 kr ?_
       simp only[go_sem,aa,aD,aV,u,h,v,D,E,d,f,g,q,r,s,F,G,H,o,t,x,X,J,Y,y,Z,q2,q3,aT (om:j<1000000),ca]
       refine⟨⟨j+1,om,rfl,(b.put dc (om:i<i+1) J j (.int .i64 (kA A B (k+1) m i j))).congr fun a c _ _=>?_⟩,om⟩
       by_cases e:a=i/\c=j
       .obtain⟨rfl,rfl⟩:=e;simp
       .rw[af e];congr 1;by_cases h:a=i
        .rw[ai h,ai h];by_cases L:c<j
         .rw[ai L,ai om]
         .rw[af L,af om]
        .rw[af h,af h]
      .simp only[*,go_sem,aD,aV,aT (om:k<1000000),ca]
       exact⟨⟨k+1,om,rfl,b.congr fun a c _ hc=>by rw[ai (om:c<j)]⟩,om⟩
    .obtain rfl:k=K:=om
     simp only[*,go_sem,aD,aV,aT (om:i<1000000),ca]
     exact⟨⟨i+1,om,rfl,gg,b.congr fun a c _ hc=>by by_cases e:a=i<;>simp[e]⟩,om⟩
  .obtain rfl:i=n:=om
   have hN:=b.imat (A:=kA A B K m) (fun _ _ _ _=>rfl);simp only[*,go_sem,aa,aD,aV];exact⟨bc,rfl,g',hN.1⟩

def VA.ptr(e:dT S b ty es x)(f:VA S x x'):VA S (.ptr es b 0) (.pat es x'):=by
 intro w v a c;obtain⟨g',g,h⟩:=e;obtain⟨cs,d,m,i,n⟩:=a b _ g;simp only[bn]at c ⊢;subst c;obtain⟨u,j,k⟩:=i 0 (by simp only;omega)
 refine⟨b,es*0,u,rfl,fP d,fun l=>l,⟨cs,ty,(0,0),d,j⟩,f w u a ?_⟩;rw[<-h];exact k
def VA.fn(h:fD S l l'):VA S (.fn f l) (.fn f l'):=by
 intro w v b a;simp only[bn]at a ⊢;obtain⟨vs,rfl,c⟩:=a;exact⟨vs,rfl,xQ b _ _ _ h c⟩
def kN(n m:Nat)(A:aJ)(g:1<=n)(h:n<=16)(j:1<=m)(k:m<=16):PF 97 [aQ n m A] (.tup [.int .i64 n,.int .i64 m,.bool true]):=by
 refine iQ func97 ntmps97 results97 ?_;have b:0<n:=om
 have a:(0:Int)<(n:Int):=om
 simp only[go_sem,a8,aQ,a,(om:¬((n:Int)<1)),(om:¬((16:Int)<(n:Int))),(om:¬((m:Int)<1)),(om:¬((16:Int)<(m:Int)))]
 refine aH (fun O S=>∃i:Nat,i<=n/\O 0=aQ n m A/\O 5=.int .i64 m/\O 26=aQ n m A/\O 27=.int .i64 n/\O 28=.int .i64 i) (fun O S=>n-ca (O 28)) ?_ ?_
 .simp only[go_sem,a8,aQ];exact⟨0,om,rfl⟩
 .rintro O S ⟨i,l,o,p,c,d,e⟩;by_cases f:i<n
  .simp only[*,go_sem,a8,aQ,show((m:Int) != m)=false by simp,aT (om:i<1000000),ca]
   exact⟨⟨i+1,om,rfl⟩,om⟩
  .simp only[*,go_sem,a8,aQ];exact VR.tup (by simp[pq])
def Ej(n m:Nat)(A:aJ)(g:1<=n)(h:n<=16)(j:1<=m)(k:m<=16):PF 154 [aD n m A] (.tup [.int .i64 n,.int .i64 m,.bool true]):=by
 refine iQ func154 ntmps154 results154 ?_;have b:0<n:=om
 have a:(0:Int)<(n:Int):=om
 simp only[go_sem,aV,aD,a,(om:¬((n:Int)<1)),(om:¬((16:Int)<(n:Int))),(om:¬((m:Int)<1)),(om:¬((16:Int)<(m:Int)))]
 refine aH (fun O S=>∃i:Nat,i<=n/\O 0=aD n m A/\O 5=.int .i64 m/\O 26=aD n m A/\O 27=.int .i64 n/\O 28=.int .i64 i) (fun O S=>n-ca (O 28)) ?_ ?_
 .simp only[go_sem,aV,aD];exact⟨0,om,rfl⟩
 .rintro O S ⟨i,l,o,p,c,d,e⟩;by_cases f:i<n
  .simp only[*,go_sem,aV,aD,show((m:Int) != m)=false by simp,aT (om:i<1000000),ca]
   exact⟨⟨i+1,om,rfl⟩,om⟩
  .simp only[*,go_sem,aV,aD];exact VR.tup (by simp[pq])
def qB(n m F:Nat)(l:List AV)(A:aJ)(G:11<=F/\F<252)(H:n<=16)(I:m<=16)(z:∀i j:Nat,i<n->j<m->PF F ([.int .i64 i,.int .i64 j]++l) (.big (A i j))):MF 131 [.int .i64 n,.int .i64 m,.fn F l] n m A:=by
 refine MF.of ?_;refine jr func131 ntmps131 results131 ?_;simp -dsimp only[go_sem]
 repeat refine an ?_
 refine aG.intro fun bc fc=>?_;simp only[go_sem];refine aH (fun O S'=>∃i:Nat,i<=n/\O 1=.int .i64 m/\O 2=.fn F l/\O 7=.sl 1 bc 0 n/\O 13=.int .i64 n/\O 14=.int .i64 i/\∃g',ft 59 50 2 St.none S' bc g' n m i (fun a j=>.big (A a j))) (fun O S=>n-ca (O 14)) ?_ ?_
 .simp only[go_sem];exact⟨0,om,rfl,fun _=>0,ft.init fc (fun _ _=>rfl) _ _⟩
 .rintro O S' ⟨i,J,q,k,r,d,f,g',b⟩;by_cases g:i<n
  .obtain⟨s,p,t⟩:=id b.outer;simp -dsimp only[*,go_sem,aa]
   repeat refine an ?_
   refine aG.intro fun bd fd=>?_;have B:bc≠bd:=bJ.fresh b.outer fd;have x:bR s i (.sl 2 bd 0 m) i=.sl 2 bd 0 m:=by simp[bR]
   simp only[*,go_sem];have h:=b.push dc fd p (fun _=>.big 0)
   generalize u:(fun a=>if a=i then bd else g' a)=gg at h
   refine aH (fun O S'=>∃j:Nat,j<=m/\O 1=.int .i64 m/\O 2=.fn F l/\O 7=.sl 1 bc 0 n/\O 8=.int .i64 i/\O 13=.int .i64 n/\O 14=.int .i64 i/\O 26=.int .i64 m/\O 27=.int .i64 j/\ft 59 50 2 St.none S' bc gg n m (i+1) (fun a c=>.big (if a=i/\j<=c then 0 else A a c))) (fun O S=>m-ca (O 27)) ?_ ?_
   .simp only[*,go_sem];refine⟨0,om,rfl,h.congr fun a c _ _=>?_⟩
    by_cases e:a=i
    .simp[e]
    .simp[e]
   .clear q k r d f b h p t u;rintro O S' ⟨j,K,q,k,r,C,d,f,v,w,b⟩;by_cases o:j<m
    .obtain⟨s,p,t⟩:=id b.outer;obtain⟨L,y,M⟩:=id (b.row i om);have D:s i=.sl 2 (gg i) 0 m:=(t i g).trans (ai om);simp -dsimp only[*,go_sem];refine bF 10 kr ?_
     simp only[go_sem,aa,q,k,r,C,d,f,v,w,g,o,p,D,y,aT (om:j<1000000),ca]
     repeat refine an ?_
     refine⟨_,(z i j g o).pure',trivial,⟨j+1,om,rfl,(b.put dc (om:i<i+1) y j (.big (A i j))).congr fun a c _ _=>?_⟩,om⟩
     by_cases e:a=i/\c=j
     .obtain⟨rfl,rfl⟩:=e;rw[ai ⟨rfl,rfl⟩,af om]
     .rw[af e];congr 1;by_cases k:a=i/\j<=c
      .rw[ai k,ai om]
      .rw[af k,af om]
    .simp only[*,go_sem,aT (om:i<1000000),ca]
     exact⟨⟨i+1,om,rfl,gg,b.congr fun a c _ N=>by rw[af om]⟩,om⟩
  .obtain rfl:i=n:=om
   have E:=b.mat (A:=A) (fun _ _ _ _=>rfl);simp only[*,go_sem,aa];exact⟨bc,rfl,g',E.1⟩
def Dv(n m:Nat)(A:aJ)(i j:Nat)(b:i<n)(c:j<m)(a:-9223372036854775808<=A i j/\A i j<=9223372036854775807):PF 155 [.int .i64 i,.int .i64 j,.pat 1 (aD n m A)] (.big (A i j)):=by
 refine iQ func155 ntmps155 results155 ?_;simp -dsimp only[go_sem];refine aG.intro fun bc fc=>?_
 try simp -dsimp only[*,go_sem,aD,aV]
 refine(ky a.1 a.2).call ?_;simp only[go_sem,aa];exact VR.mf rfl
def Oq(n m k:Nat)(A:aJ)(i j:Nat)(b:i<n)(c:j<m)(a:nb (A i j) k)(d:k<=1000000000):PF 212 [.int .i64 i,.int .i64 j,.pat 1 (aQ n m A)] (.big (-A i j)):=by
 refine iQ func212 ntmps212 results212 ?_;simp -dsimp only[go_sem];refine aG.intro fun bc fc=>?_
 try simp -dsimp only[*,go_sem,aQ,a8]
 refine(rY a om).call ?_;simp only[go_sem,aa];exact VR.mf rfl
def Gc(k:Nat)(z:Int)(i j:Nat)(a:nb z k)(b:k<=1000000000):PF 238 [.int .i64 i,.int .i64 j,.pat 2 (.big z)] (.big (if i=j then z else 0)):=by
 refine iQ func238 ntmps238 results238 ?_;simp -dsimp only[go_sem];refine aG.intro fun bc fc=>?_;by_cases e:i=j
 .subst e
  try simp -dsimp only[go_sem,show((i:Int)==i)=true by simp]
  refine(qV a om).call ?_;simp only[go_sem,aa];exact VR.mf rfl
 .try simp only[go_sem,e,show((i:Int)==j)=false by simp;omega]
  exact VR.mf rfl
def fD.fn1{a b:AV}(h:fD S l l'):fD S [a,b,.fn f l] [a,b,.fn f l']:=⟨VA.refl _ _,VA.refl _ _,VA.fn h,trivial⟩
def fD.one(h:VA S x x'):fD S [x] [x']:=⟨h,trivial⟩
def fD.three{y y' z':AV}(h:VA S x x')(a:VA S y y')(b:VA S z z'):fD S [x,y,z] [x',y',z']:=⟨h,a,b,trivial⟩
def eL{g:Nat->AV}:bR g i x i=x:=by simp[bR]
def rL(n m:Nat)(A:aJ)(f:1<=n)(a:n<=16)(h:1<=m)(c:m<=16)(k:∀i j,i<n->j<m->-9223372036854775808<=A i j/\A i j<=9223372036854775807):DI 93 [aD n m A] n m A:=by
 refine DI.of ?_;refine jr func93 ntmps93 results93 ?_;simp -dsimp only[go_sem,aa,aD,aV];refine aG.intro fun bc fc=>?_
 try simp -dsimp only[go_sem]
 refine(Ej n m A f a h c).call ?_;simp -dsimp only[go_sem,aa];refine(qB n m 155 [.pat 1 (aD n m A)] A om a c (fun i j d e=>Dv n m A i j d e (k i j d e)) _ _ (fD.fn1 (fD.one (VA.ptr (dT.new rfl) (VA.refl _ _))))).mono ?_;rintro _ S1 ⟨b,g,rfl,l⟩;simp only[go_sem];exact⟨b,rfl,g,l.1⟩
def Ju(n k:Nat)(z:Int)(a:n<=16)(c:nb z k)(d:k<=1000000000):MF 190 [.int .i64 n,.big z] n n (fun i j=>if i=j then z else 0):=by
 refine MF.of ?_;refine jr func190 ntmps190 results190 ?_;simp -dsimp only[go_sem,aa];refine aG.intro fun bc fc=>?_
 try simp -dsimp only[go_sem]
 refine(qB n n 238 [.pat 2 (.big z)] (fun i j=>if i=j then z else 0) om a a (fun i j f h=>Gc k z i j c d) _ _ (fD.fn1 (fD.one (VA.ptr (dT.new rfl) (VA.refl _ _))))).mono ?_
 rintro _ S1 ⟨b,g,rfl,e⟩;simp only[go_sem];exact⟨b,rfl,g,e.1⟩
theorem pm{f:Nat->Int}{k:Nat}:∀(t:Nat),(∀i,i<t->nb (f i) k)->nb (az t f) (k+t)
 | 0,_=>nb.zero _
 | t+1,h=>by
  have a:=pm t (fun i c=>h i om);have b:=(h t om).mono (om:k<=k+t)
  exact a.add b
def PQ(n K l k:Nat)(A B:aJ)(i j:Nat)(d:i<n)(e:j<l)(s:K<=16)(g:∀i j,i<n->j<K->nb (A i j) k)(h:∀i j,i<K->j<l->nb (B i j) k)(u:k<=1000000):PF 132 [.int .i64 i,.int .i64 j,.pat 1 (.int .i64 K),.pat 1 (aQ n K A),.pat 1 (aQ K l B)] (.big (mm K A B i j)):=by
 refine iQ func132 ntmps132 results132 ?_;simp -dsimp only[go_sem];refine aG.intro fun bc fc=>?_
 try simp -dsimp only[go_sem]
 refine aG.intro fun bd fd=>?_;have nd_c:=(ag fd).1
 try simp only[go_sem]
 refine aH (fun O S'=>∃t:Nat,t<=K/\O 0=.int .i64 i/\O 1=.int .i64 j/\O 3=.pat 1 (aQ n K A)/\O 4=.pat 1 (aQ K l B)/\O 7=.ptr 2 bc 0/\O 8=.ptr 2 bd 0/\O 11=.int .i64 K/\O 12=.int .i64 t/\dT S' bc 50 2 (.big 0)/\dT S' bd 50 2 (.big (az t fun a=>A i a*B a j))) (fun O S=>K-ca (O 12)) ?_ ?_
 .simp only[go_sem];exact⟨0,om,rfl,((dT.new rfl).upd (aj nd_c) _).upd (aj nd_c) _,dT.set⟩
 .rintro O S' ⟨t,v,w,x,y,z,C,D,o,p,c,m⟩;obtain⟨E,F,G⟩:=id c;obtain⟨H,I,J⟩:=id m;by_cases b:t<K
  .simp -dsimp only[*,go_sem,aa];refine bF 17 kr ?_
   simp only[*,go_sem,aa,aQ,a8,aT (om:t<1000000),ca]
   have q:=pm (f:=fun a=>A i a*B a j) (k:=k+k) t (fun a L=>(g i a d om).mul (h a j om e));have r:=((g i t d b).mul (h t j b e)).mono (om:k+k<=k+k+t)
   exact⟨_,(po (g i t d b) (h t j b e) om).pure',_,(vk q r om).pure',trivial,⟨t+1,om,rfl,c.upd (aj nd_c) _,dT.set⟩,om⟩
  .obtain rfl:t=K:=om
   simp only[*,go_sem,aa];simp only[bR,aO];exact VR.mf rfl
def Gr(n m k:Nat)(A:aJ)(p:1<=n)(f:n<=16)(h:m<=16)(l:∀i j,i<n->j<m->nb (A i j) k)(q:k<=1000000):MF 163 [aQ n m A] n m (fun i j=>- A i j):=by
 refine MF.of ?_;refine jr func163 ntmps163 results163 ?_;have c:0<n:=om
 have a:(0:Int)<(n:Int):=om
 simp -dsimp only[go_sem,aQ,a8];refine aG.intro fun bc fc=>?_
 try simp -dsimp only[go_sem,aQ,a8,c,a]
 refine bF 7 kr ?_
 simp -dsimp only[go_sem,aa,a];refine(qB n m 212 [.pat 1 (aQ n m A)] (fun i j=>- A i j) om f h (fun i j d e=>Oq n m k A i j d e (l i j d e) om) _ _ (fD.fn1 (fD.one (VA.ptr (dT.new rfl) (VA.refl _ _))))).mono ?_;rintro _ S1 ⟨b,g,rfl,o⟩;simp only[go_sem];exact⟨b,rfl,g,o.1⟩
def tP(n K l k:Nat)(A B:aJ)(m:1<=n)(e:n<=16)(f:1<=K)(d:K<=16)(o:1<=l)(h:l<=16)(p:∀i j,i<n->j<K->nb (A i j) k)(q:∀i j,i<K->j<l->nb (B i j) k)(r:k<=1000000):DI 80 [aQ n K A,aQ K l B] n l (mm K A B):=by
 refine DI.of ?_;refine jr func80 ntmps80 results80 ?_;simp -dsimp only[go_sem,aa,aQ,a8];refine aG.intro fun bc fc=>?_
 try simp -dsimp only[go_sem,aQ,a8]
 refine aG.intro fun bd fd=>?_;have nd_c:=(ag fd).1
 try simp -dsimp only[go_sem,aj nd_c]
 refine(kN n K A m e f d).call ?_;simp -dsimp only[go_sem,aa];refine aG.intro fun be fe=>?_;have ne_d:=(ag fe).1;have ne_c:=(ag (ag fe).2).1
 try simp -dsimp only[go_sem,aj ne_d]
 refine(kN K l B f d o h).call ?_;simp -dsimp only[go_sem,aa,show((K:Int) != K)=false by simp,eL]
 have s:bc≠bd:=aj nd_c;have a:bc≠be:=aj ne_c;have c:bd≠be:=aj ne_d;refine(qB n l 132 [.pat 1 (.int .i64 K),.pat 1 (aQ n K A),.pat 1 (aQ K l B)] (mm K A B) om e h (fun i j t u=>PQ n K l k A B i j t u d p q r) _ _ (fD.fn1 (fD.three (VA.ptr dT.set (VA.refl _ _)) (VA.ptr ((((dT.new rfl).upd s _).upd a _).upd a _) (VA.refl _ _)) (VA.ptr (((dT.new rfl).upd c _).upd c _) (VA.refl _ _))))).mono ?_;rintro _ S1 ⟨b,g,rfl,v⟩;simp only[go_sem];exact⟨b,rfl,g,v.1⟩

def LF(f:Nat)(args:List AV)(n:Nat)(v:Nat->Int):Prop:=∀S args',fD S args' args->cE f args' S (fun r S'=>∃b,r=.sl 2 b 0 n/\iW S' b n v/\eQ S S'/\S b=ab)
def yO(S:St)(b:Nat):St:=fun k=>if k=b then S k else ab
def LV(S:St)(b:Nat):∀c X,yO S b c=some X->S c=some X:=by
 intro c X h;unfold yO at h;split at h
 .exact h
 .cases h
def iW.only(h:iW S b n v):iW (yO S b) b n v/\KI (yO S b):=by
 obtain⟨g',d,f⟩:=h;refine⟨⟨g',by simp[yO,d],f⟩,fun c X a j g=>?_⟩
 unfold yO at a;split at a
 .rename_i e;subst e;rw[a]at d;cases d;show zC (g' j)=true;rw[f j g];rfl
 .cases a
def LF.of(h:cE f args St.none (fun r S'=>∃b,r=.sl 2 b 0 n/\iW S' b n v)):LF f args n v:=fun S args' d=>by
 have g:cE f args St.none (fun r S'=>∃b,r=.sl 2 b 0 n/\iW S' b n v/\KI S'):=h.less fun r S' ⟨b,e,a⟩=>⟨yO S' b,LV S' b,b,e,a.only.1,a.only.2⟩;refine(g.frame d ?_).mono ?_
 .rintro r S1 ⟨b,rfl,_,i⟩;exact⟨rfl,i⟩
 .rintro r S' ⟨S1,⟨b,rfl,a,_⟩,c,rfl⟩;exact⟨b,rfl,(bJ.join c a).1,qy S S1,(bJ.join c a).2⟩
def nk(n m k i j:Nat)(A:aJ)(a b:Int)(o:i<n)(p:j<n)(D:m<=100)(h:∀c r,c<n->r<m->nb (A c r) k)(q:nb a k)(s:nb b k)(E:k<=1000000) :
  LF 269 [aQ n m A,.int .i64 i,.big a,.int .i64 j,.big b] m (fun r=>a*A i r+b*A j r):=by
 refine LF.of ?_;refine jr func269 ntmps269 results269 ?_;simp -dsimp only[go_sem,aQ,a8];refine aG.intro fun bc fc=>?_
 try simp -dsimp only[go_sem,aQ,a8]
 refine aG.intro fun bd fd=>?_;have nd_c:=(ag fd).1;simp -dsimp only[go_sem,o]
 repeat refine an ?_
 refine aG.intro fun be fe=>?_;have ne_d:=(ag fe).1;have ne_c:=(ag (ag fe).2).1;simp only[go_sem];refine aH (fun O S'=>∃t:Nat,t<=m/\O 0=aQ n m A/\O 1=.int .i64 i/\O 3=.int .i64 j/\O 7=.ptr 2 bc 0/\O 9=.ptr 2 bd 0/\O 11=.sl 2 be 0 m/\O 20=.int .i64 m/\O 21=.int .i64 t/\dT S' bc 50 2 (.big a)/\dT S' bd 50 2 (.big b)/\iW S' be m (fun r=>if r<t then a*A i r+b*A j r else 0)) (fun O S=>m-ca (O 21)) ?_ ?_
 .simp only[go_sem,aQ,a8];exact⟨0,om,rfl,((dT.new rfl).upd (aj nd_c) _).upd (aj ne_c) _,(dT.new rfl).upd (aj ne_d) _,bJ.here fun r l=>by simp⟩
 .rintro O S' ⟨t,F,G,H,I,J,K,w,x,y,f,g,u⟩;obtain⟨L,M,N⟩:=id f;obtain⟨P,Q,R⟩:=id g;obtain⟨T,U,z⟩:=id u;by_cases d:t<m
  .simp -dsimp only[*,go_sem];refine bF 22 kr ?_
   simp only[*,go_sem,aa,aQ,a8,aT (om:t<1000000),ca]
   have B:=q.mul (h i t o d);have C:=s.mul (h j t p d);exact⟨_,(po q (h i t o d) om).pure',_,(po s (h j t p d) om).pure',_,(vk B C om).pure',trivial,⟨t+1,om,rfl,f.upd (aj ne_c) _,g.upd (aj ne_d) _,bJ.here fun r l=>by
    simp only[bR];by_cases e:r=t
    .subst e;simp
    .rw[af e,z r l];by_cases v:r<t
     .simp[v,(om:r<t+1)]
     .simp[v,(om:¬r<t+1)]⟩,om⟩
  .obtain rfl:t=m:=om
   simp only[*,go_sem];exact⟨be,rfl,u.congr fun r l=>by simp[l]⟩
def tu(n m:Nat)(A:aJ)(F:1<=n)(G:n<=16)(H:m<=16):MF 258 [aQ n m A] m n (fun j i=>A i j):=by
 refine MF.of ?_;refine jr func258 ntmps258 results258 ?_;have z:0<n:=om
 have l:(0:Int)<(n:Int):=om
 simp -dsimp only[go_sem,aQ,a8,l]
 repeat refine an ?_
 refine aG.intro fun bc fc=>?_;simp only[go_sem];refine aH (fun O S'=>∃j:Nat,j<=m/\O 0=aQ n m A/\O 3=.sl 1 bc 0 m/\O 13=.int .i64 m/\O 14=.int .i64 j/\∃g',ft 59 50 2 St.none S' bc g' m n j (fun a i=>.big (A i a))) (fun O S=>m-ca (O 14)) ?_ ?_
 .simp only[go_sem,aQ,a8];exact⟨0,om,rfl,fun _=>0,ft.init fc (fun _ _=>rfl) _ _⟩
 .rintro O S' ⟨j,I,o,p,d,f,g',b⟩;by_cases h:j<m
  .obtain⟨w,k,q⟩:=id b.outer;simp -dsimp only[*,go_sem,aa,aQ,a8]
   repeat refine an ?_
   refine aG.intro fun bd fd=>?_;have B:bc≠bd:=bJ.fresh b.outer fd;simp only[*,go_sem];have g:=b.push dc fd k (fun _=>.big 0)
   generalize r:(fun a=>if a=j then bd else g' a)=gg at g
   refine aH (fun O S'=>∃i:Nat,i<=n/\O 0=aQ n m A/\O 3=.sl 1 bc 0 m/\O 4=.int .i64 j/\O 13=.int .i64 m/\O 14=.int .i64 j/\O 23=aQ n m A/\O 24=.int .i64 n/\O 25=.int .i64 i/\ft 59 50 2 St.none S' bc gg m n (j+1) (fun a c=>.big (if a=j/\i<=c then 0 else A c a))) (fun O S=>n-ca (O 25)) ?_ ?_
   .simp only[*,go_sem,aQ,a8];refine⟨0,om,rfl,g.congr fun a c _ _=>?_⟩
    by_cases e:a=j
    .simp[e]
    .simp[e]
   .clear o p d f b g k q r;rintro O S' ⟨i,J,o,p,C,d,f,s,t,u,b⟩;by_cases v:i<n
    .obtain⟨w,k,q⟩:=id b.outer;obtain⟨K,x,L⟩:=id (b.row j om);have D:w j=.sl 2 (gg j) 0 n:=(q j h).trans (ai om);simp -dsimp only[*,go_sem,aQ,a8];refine bF 10 kr ?_
     simp only[go_sem,aa,o,p,C,d,f,s,t,u,h,v,k,D,x,aQ,a8,aT (om:i<1000000),ca]
     refine⟨⟨i+1,om,rfl,(b.put dc (om:j<j+1) x i (.big (A i j))).congr fun a c _ _=>?_⟩,om⟩
     by_cases e:a=j/\c=i
     .obtain⟨rfl,rfl⟩:=e;rw[ai ⟨rfl,rfl⟩,af om]
     .rw[af e];congr 1;by_cases y:a=j/\i<=c
      .rw[ai y,ai om]
      .rw[af y,af om]
    .simp only[*,go_sem,aa,aT (om:j<1000000),ca]
     exact⟨⟨j+1,om,rfl,rfl,gg,b.congr fun a c _ M=>by rw[af om]⟩,om⟩
  .obtain rfl:j=m:=om
   have E:=b.mat (A:=fun j i=>A i j) (fun _ _ _ _=>rfl);simp only[*,go_sem,aa];exact⟨bc,rfl,g',E.1⟩

def Iw{z:Int}{B:Nat}(h:z.natAbs<=B)(a:B<2^k):nb z k:=dR h a
def CI{z:Nat}(h:z<2^k):nb (z:Int) k:=by unfold nb;simpa using h
def dT.at_hit{g:Nat->AV}:dT (S.upd b ⟨ty,es,1,g⟩) b ty es z=(g 0=z) :=
 propext ⟨fun⟨g',a,c⟩=>by rw[ci]at a;cases a;exact c,fun h=>⟨g,ci,h⟩⟩
def dT.at_miss{c:Nat}(h:b≠c):dT (S.upd c X) b ty es z=dT S b ty es z:=by
 unfold dT;rw[aN h]
def GK(x y:Nat):(x:Int)/(y:Int)=((x/y:Nat):Int)/\(x:Int)%(y:Int)=((x%y:Nat):Int):=⟨sm,sm⟩
def RO:St->AV->Nat
 | S,.ptr _ b _=>(match S b with
  | some X=>(match X.g 0 with
   | .big z=>z.toNat
   | _=>0)
  | _=>0)
 | _,_=>0
def Fg{z:Int}(h:dT S b 50 2 (.big z)):RO S (.ptr 2 b 0)=z.toNat:=by
 obtain⟨g,a,c⟩:=h;simp only[RO,a,c]
def BzS(S:St)(b2 b3 b4 b5 b6 b7 b8:Nat)(x y a b na nb':Int):Prop :=
 dT S b2 50 2 (.big x)/\dT S b3 50 2 (.big y)/\dT S b4 50 2 (.big 0)/\dT S b5 50 2 (.big a)/\dT S b6 50 2 (.big b)/\dT S b7 50 2 (.big na)/\dT S b8 50 2 (.big nb')
def J6(d e k:Nat)(L:1<=k)(M:k<=1000000)(hx:d<2^k)(hy:e<2^k)(N:0<d∨0<e) :
  PF 268 [.big d,.big e] (.tup [.big (bz d e).1,.big (bz d e).2.1,.big (bz d e).2.2]):=by
 refine iQ func268 ntmps268 results268 ?_;have h2k:1<2^k:=Nat.one_lt_two_pow om;have one_pf:PF 81 [.int .i64 1] (.big 1):=ky dc dc
 simp -dsimp only[go_sem];refine aG.intro fun bc fc=>?_
 try simp -dsimp only[go_sem]
 refine aG.intro fun bd fd=>?_;have nd_c:=(ag fd).1
 try simp -dsimp only[go_sem]
 refine aG.intro fun be fe=>?_;have ne_d:=(ag fe).1;have ne_c:=(ag (ag fe).2).1
 try simp -dsimp only[go_sem]
 refine aG.intro fun bf ff=>?_;have nf_e:=(ag ff).1;have nf_d:=(ag (ag ff).2).1;have nf_c:=(ag (ag (ag ff).2).2).1
 try simp -dsimp only[go_sem]
 refine aG.intro fun bg fg=>?_;have ng_f:=(ag fg).1;have ng_e:=(ag (ag fg).2).1;have ng_d:=(ag (ag (ag fg).2).2).1;have ng_c:=(ag (ag (ag (ag fg).2).2).2).1
 try simp -dsimp only[go_sem]
 refine one_pf.call ?_;simp -dsimp only[go_sem,aa,nn ng_f];refine one_pf.call ?_;simp -dsimp only[go_sem];refine aG.intro fun bh fh=>?_;have nh_g:=(ag fh).1;have nh_f:=(ag (ag fh).2).1;have nh_g:=(ag (ag (ag fh).2).2).1;have nh_f:=(ag (ag (ag (ag fh).2).2).2).1;have nh_e:=(ag (ag (ag (ag (ag fh).2).2).2).2).1;have nh_d:=(ag (ag (ag (ag (ag (ag fh).2).2).2).2).2).1;have nh_c:=(ag (ag (ag (ag (ag (ag (ag fh).2).2).2).2).2).2).1;simp -dsimp only[go_sem];refine aG.intro fun bi fi=>?_;have ni_h:=(ag fi).1;have ni_g:=(ag (ag fi).2).1;have ni_f:=(ag (ag (ag fi).2).2).1;have ni_g:=(ag (ag (ag (ag fi).2).2).2).1;have ni_f:=(ag (ag (ag (ag (ag fi).2).2).2).2).1;have ni_e:=(ag (ag (ag (ag (ag (ag fi).2).2).2).2).2).1;have ni_d:=(ag (ag (ag (ag (ag (ag (ag fi).2).2).2).2).2).2).1;have ni_c:=(ag (ag (ag (ag (ag (ag (ag (ag fi).2).2).2).2).2).2).2).1;simp -dsimp only[go_sem,aa,nn ni_h];refine aH (fun O S'=>∃(x y:Nat) (a b na nb':Int),KJ d e x y a b na nb'/\O 2=.ptr 2 bc 0/\O 3=.ptr 2 bd 0/\O 4=.ptr 2 be 0/\O 5=.ptr 2 bf 0/\O 6=.ptr 2 bg 0/\O 7=.ptr 2 bh 0/\O 8=.ptr 2 bi 0/\BzS S' bc bd be bf bg bh bi x y a b na nb') (fun O S=>RO S (O 3)) ?_ ?_
 .simp -dsimp only[go_sem];refine⟨d,e,1,0,0,1,KJ.init N,?_⟩;simp only[BzS,dT.at_hit,dT.at_miss,DF,iG,bR,aO,SG,aj nd_c,aj ne_c,aj ne_d,aj nf_c,aj nf_d,aj nf_e,aj ng_c,aj ng_d,aj ng_e,aj ng_f,aj nh_c,aj nh_d,aj nh_e,aj nh_f,aj nh_g,aj ni_c,aj ni_d,aj ni_e,aj ni_f,aj ni_g,aj ni_h]
 .rintro O S' ⟨x,y,a,b,na,nbb,f,m,i,A,s,B,C,P,c⟩;obtain⟨⟨g2,r,n⟩,⟨g3,o,j⟩,⟨g4,Q,v4⟩,⟨g5,D,E⟩,⟨g6,F,G⟩,⟨g7,R,U⟩,⟨g8,u8,V⟩⟩:=id c;by_cases g:y=0
  .subst g;simp -dsimp only[go_sem,aa,i,o,j];refine(kG (nb.zero 1) om).call ?_;simp -dsimp only[go_sem,aa,m,i,r,n,o,j,show(Int.sign 0 != 0)=false from rfl];refine fu 3 [[1,2]] kr ?_
   simp -dsimp only[go_sem,aa,m,A,s,B,r,n,Q,D,E,F,G,nn nf_e,nn ng_e,nn ng_f];simp only[bR,aO];rw[f.fin];exact⟨trivial,trivial,trivial,VR.tup (l:=[.big x,.big a,.big b]) (by simp[pq])⟩
  .have W:((y:Int).sign != 0)=true:=by simp;omega
   have lx:x<2^k/\y<2^k:=by
    have h1:=f.lx;have h2:=f.ly;omega
   have t:nb a k:=Iw f.la om;have p:nb na k:=Iw f.lna om;have u:nb b k:=Iw f.lb om;have q:nb nbb k:=Iw f.lnb om;have nq:nb ((x/y:Nat):Int) k:=CI (dR (fX x y) lx.1);have H:=GK x y;simp -dsimp only[go_sem,aa,i,o,j];refine(kG (CI lx.2) om).call ?_;simp -dsimp only[go_sem,aa,m,i,r,n,o,j,W];refine(iR (CI lx.1) (CI lx.2) om om).call ?_;rw[H.1,H.2];simp -dsimp only[go_sem,n,j];refine aG.intro fun bj fj=>?_;have X:bc≠bj/\bd≠bj/\be≠bj/\bf≠bj/\bg≠bj/\bh≠bj/\bi≠bj:=⟨dT.fresh c.1 fj,dT.fresh c.2.1 fj,dT.fresh c.2.2.1 fj,dT.fresh c.2.2.2.1 fj,dT.fresh c.2.2.2.2.1 fj,dT.fresh c.2.2.2.2.2.1 fj,dT.fresh c.2.2.2.2.2.2 fj⟩;obtain⟨v,w,Y,I,Z,J,j7⟩:=X;simp -dsimp only[go_sem];refine aG.intro fun bk fk=>?_;have nk_j:=(ag fk).1;have h:=(ag fk).2;have z:bc≠bk/\bd≠bk/\be≠bk/\bf≠bk/\bg≠bk/\bh≠bk/\bi≠bk:=⟨dT.fresh c.1 h,dT.fresh c.2.1 h,dT.fresh c.2.2.1 h,dT.fresh c.2.2.2.1 h,dT.fresh c.2.2.2.2.1 h,dT.fresh c.2.2.2.2.2.1 h,dT.fresh c.2.2.2.2.2.2 h⟩;obtain⟨k1,k2,k3,k4,k5,k6,k7⟩:=z;simp -dsimp only[go_sem,aa,nn nk_j];refine fu 2 [[1]] kr ?_
   simp -dsimp only[go_sem,aa,m,i,r,n,o,j,nd_c,v,w,nn k1,nn k2,eL];refine bF 6 kr ?_
   simp -dsimp only[go_sem,aa,s,C,D,E,R,U,nf_c,nf_d,nh_c,nh_d,nh_f,I,J,k4,k6,aj nk_j,eL,aj v,aj w];refine⟨_,(po nq p om).pure',_,(Cr (t.mono (om:k<=k+k)) (nq.mul p) om).pure',trivial,?_⟩
   refine bF 6 kr ?_
   simp -dsimp only[go_sem,aa,m,i,A,s,B,C,P,F,G,u8,V,ng_c,ng_d,ng_f,ni_c,ni_d,ni_f,ni_g,ni_h,aj nh_g,Z,j7,k5,k7,aj nk_j,eL,aj v,aj w,aj I,aj J];refine⟨_,(po nq q om).pure',_,(Cr (u.mono (om:k<=k+k)) (nq.mul q) om).pure',trivial,?_⟩
   generalize hT:(((((((((S'.upd bj _).upd bk _).upd bj _).upd bk _).upd bc _).upd bd _).upd bf _).upd bh _).upd bg _).upd bi _=T;have K:BzS T bc bd be bf bg bh bi (y:Int) ((x%y:Nat):Int) na nbb (a-((x/y:Nat):Int)*na) (b-((x/y:Nat):Int)*nbb):=by
    rw[<-hT];simp only[BzS,dT.at_hit,dT.at_miss,DF,iG,bR,aO,SG,jO,xP,ne_c,ne_d,nh_g,aj nd_c,aj nf_c,aj nf_d,aj nf_e,aj ng_c,aj ng_d,aj ng_e,aj ng_f,aj nh_c,aj nh_d,aj nh_e,aj nh_f,aj ni_c,aj ni_d,aj ni_e,aj ni_f,aj ni_g,aj ni_h,Y,k3];exact c.2.2.1
   refine⟨⟨y,x%y,na,nbb,_,_,f.step g,K⟩,?_⟩;rw[Fg K.2.1,Fg c.2.1];have:=dq x (gn g);simp only[cj];exact this

def dA.repl(h:dA S b g n m A){j c:Nat}{v:Nat->Int}(p:iW S c m v)(f:∀i,i<n->g i≠c){q:Nat->AV}(u:S b=some ⟨59,1,n,q⟩) :
  dA (S.upd b ⟨59,1,n,bR q j (.sl 2 c 0 m)⟩) b (fun i=>if i=j then c else g i) n m (fun i r=>if i=j then v r else A i r):=by
 have o:b≠c:=bJ.ne h.outer p dc
 refine⟨bJ.here fun i a=>?_,fun i a=>?_,fun i k a s d=>?_⟩
 .obtain⟨x,t,w⟩:=h.outer;rw[u]at t;cases t;simp only[bR];by_cases e:i=j
  .simp[e]
  .simp only[e,aP];exact w i a
 .by_cases e:i=j
  .simp only[e,aO];exact p.upd (aj o) _
  .simp only[e,aP];exact(h.row i a).upd (aj (h.outer_ne a)) _
 .by_cases e:i=j
  .by_cases l:k=j
   .omega
   .simp only[e,l,aO,aP]at d;exact absurd d.symm (f k s)
  .by_cases l:k=j
   .simp only[e,l,aO,aP]at d;exact absurd d (f i a)
   .simp only[e,l,aP]at d;exact h.inj i k a s d
structure mM(S S':St)(b:Nat)(g g':Nat->Nat)(n:Nat):Prop where
 keep:∀k X,S k=some X->k≠b->(∀i,i<n->g i≠k)->S' k=some X
 new:∀i,i<n->(∃j,j<n/\g' i=g j)∨S (g' i)=ab
def mM.refl(S:St)(b:Nat)(g:Nat->Nat)(n:Nat):mM S S b g g n:=⟨fun _ _ h _ _=>h,fun i a=>bM ⟨i,a,rfl⟩⟩
def mM.upd(h:mM S S' b g g' n){c:Nat}(j:c=b∨(∃i,i<n/\g i=c)∨S c=ab)(X:eE):mM S (S'.upd c X) b g g' n:=by
 refine⟨fun k Y a d f=>?_,h.new⟩;have l:k≠c:=by
  rintro rfl;rcases j with e|⟨i,m,e⟩|e
  .exact d e
  .exact f i m e
  .rw[e]at a;cases a
 rw[aN l];exact h.keep k Y a d f
def mM.trans{S1 S2:St}{g1 g2:Nat->Nat}(h:mM S S1 b g g1 n)(k:mM S1 S2 b g1 g2 n)(r:S1 b≠ab):mM S S2 b g g2 n:=by
 refine⟨fun c X m o p=>k.keep c X (h.keep c X m o p) o (fun i f e=>?_),fun i f=>?_⟩
 .rcases h.new i f with⟨j,d,a⟩|a
  .exact p j d (a.symm.trans e)
  .rw[e,m]at a;cases a
 .rcases k.new i f with⟨j,d,e⟩|e
  .rw[e];exact h.new j d
  .by_cases q:∃j,j<n/\g2 i=g j
   .exact bM q
   .refine bO ?_
    cases a:S (g2 i)with
    | none=>rfl
    | some X =>
     have s:g2 i≠b:=fun l=>r (l▸e);have:=h.keep (g2 i) X a s (fun j d l=>q ⟨j,d,l.symm⟩);rw[e]at this;cases this
def mM.var(h:mM S S' b g g' n){c ty es:Nat}{z:AV}(a:dT S c ty es z)(d:c≠b)(e:∀i,i<n->g i≠c):dT S' c ty es z:=by
 obtain⟨x,f,j⟩:=a;exact⟨x,h.keep c _ f d e,j⟩
def mM.ne(h:mM S S' b g g' n){c:Nat}{X:eE}(d:S c=some X)(f:∀i,i<n->g i≠c):∀i,i<n->g' i≠c:=by
 intro i k e;rcases h.new i k with⟨j,l,a⟩|a
 .exact f j l (a.symm.trans e)
 .rw[e,d]at a;cases a
def dA.some(h:dA S b g n m A):S b≠ab:=by
 obtain⟨x,a,_⟩:=h.outer;rw[a];simp
structure qM(S:St)(b:Nat)(c:Nat->Nat)(n m:Nat)(A:aJ):Prop where
 outer:bJ S b 59 1 n (fun i=>.sl 2 (c i) 0 m)
 row:∀i,i<n->iW S (c i) m (A i)
def dA.cols(h:dA S b g n m A):qM S b g n m A:=⟨h.outer,h.row⟩
def qM.ne(h:qM S b c n m A){i:Nat}(a:i<n):b≠c i:=bJ.ne h.outer (h.row i a) dc
def qM.vr(h:qM S b c n m A):VR S (.sl 1 b 0 n) (aQ n m A):=VR.sl h.outer om (fun j a=>by rw[aB];exact(h.row j a).vr)
def qM.ext(h:qM S b c n m A)(a:eQ S S'):qM S' b c n m A:=⟨a.has h.outer,fun i d=>a.has (h.row i d)⟩
def iC(b:Nat)(S S':St):Prop:=∀k X,S k=some X->k≠b->S' k=some X
def iC.refl(b:Nat)(S:St):iC b S S:=fun _ _ h _=>h
def iC.trans{S'':St}(h:iC b S S')(k:iC b S' S''):iC b S S'':=fun c X d a=>k c X (h c X d a) a
def iC.ext(h:eQ S S'):iC b S S':=fun c X a _=>h c X a
def iC.upd(h:iC b S S'){c:Nat}(f:c=b∨S c=ab)(X:eE):iC b S (S'.upd c X):=fun k Y a d=>by
 have:k≠c:=by
  rintro rfl;rcases f with e|e
  .exact d e
  .rw[e]at a;cases a
 rw[aN this];exact h k Y a d
def iC.has(h:iC b S S'){c ty es k:Nat}{z:Nat->AV}(a:bJ S c ty es k z)(d:c≠b):bJ S' c ty es k z:=by
 obtain⟨x,e,f⟩:=a;exact⟨x,h c _ e d,f⟩
def iC.var(h:iC b S S'){c ty es:Nat}{z:AV}(a:dT S c ty es z)(d:c≠b):dT S' c ty es z:=by
 obtain⟨x,e,f⟩:=a;exact⟨x,h c _ e d,f⟩
def Au(S:St)(b:Nat)(c:Nat->Nat)(n m p q:Nat)(A:aJ)(h:p<n)(j:q<n)(d:qM S b c n m A) :
  cE 264 [.sl 1 b 0 n,.int .i64 p,.int .i64 q] S (fun _ S'=>(∃c',qM S' b c' n m (fun i=>A (dG p q i)))/\iC b S S'):=by
 refine ib func264 rfl 20 ntmps264 kr sm ?_
 rw[lg,results264];obtain⟨k,o,f⟩:=id d.outer;have r:k p=.sl 2 (c p) 0 m:=f p h;have s:k q=.sl 2 (c q) 0 m:=f q j;simp -dsimp only[go_sem];refine ip 13 kr ?_
 simp -dsimp only[go_sem,aa,o,r,s,h,j];refine⟨⟨fun i=>c (dG p q i),bJ.here fun i l=>?_,fun i l=>?_⟩,((iC.refl b S).upd (bM rfl) _).upd (bM rfl) _⟩
 .simp only[bR,dG];by_cases e:i=q
  .subst e;by_cases a:i=p
   .subst a;simp
   .simp[a]
  .by_cases a:i=p
   .subst a;simp[e]
   .simp[e,a,f i l]
 .have g:dG p q i<n:=by unfold dG;split<;>(try split)<;>omega
  exact((d.row _ g).upd (aj (d.ne g)) _).upd (aj (d.ne g)) _
def fD.first(h:VA S x x'):fD S (x::l) (x'::l):=⟨h,cI _ _⟩
structure Sb(S0 S:St)(b bd b9:Nat)(c:Nat->Nat)(n m j t:Nat)(A:aJ)(v:Nat->Int)(d:Int):Prop where
 outer:bJ S b 59 1 n (fun a=>.sl 2 (if a=j then bd else c a) 0 m)
 new:iW S bd m (fun r=>if r<t then v r/d else v r)
 row:∀a,a<n->a≠j->iW S (c a) m (A a)
 var:dT S b9 50 2 (.big d)
 keep:iC b S0 S
 h1:S0 bd=ab
 h2:S0 b9=ab
 ne:b9≠bd
 nc:∀a,a<n->c a≠bd
def Sb.other{bd:Nat}(h:Sb S0 S b bd b9 c n m j t A v d){e:Nat}(f:S e=ab)(X:eE):Sb S0 (S.upd e X) b bd b9 c n m j t A v d :=
 ⟨h.outer.upd (bJ.fresh h.outer f) _,h.new.upd (bJ.fresh h.new f) _,fun a g i=>(h.row a g i).upd (bJ.fresh (h.row a g i) f) _,h.var.upd (h.var.fresh f) _,fun k Y l o=>by
  have:k≠e:=by rintro rfl;rw[h.keep k Y l o]at f;cases f
  rw[aN this];exact h.keep k Y l o,h.h1,h.h2,h.ne,h.nc⟩
def Sb.put{bd:Nat}(h:Sb S0 S b bd b9 c n m j t A v d){g:Nat->AV}(l:S bd=some ⟨50,2,m,g⟩):Sb S0 (S.upd bd ⟨50,2,m,bR g t (.big (v t/d))⟩) b bd b9 c n m j (t+1) A v d:=by
 refine⟨h.outer.upd (bJ.ne h.outer h.new dc) _,bJ.here fun r o=>?_,fun a f p=>(h.row a f p).upd (h.nc a f) _,h.var.upd h.ne _,h.keep.upd (bO h.h1) _,h.h1,h.h2,h.ne,h.nc⟩
 obtain⟨g',i,q⟩:=h.new;rw[l]at i;cases i;simp only[bR];by_cases e:r=t
 .subst e;simp
 .rw[af e,q r o];by_cases k:r<t
  .simp[k,(om:r<t+1)]
  .simp[k,(om:¬r<t+1)]
def tn(S0:St)(b:Nat)(c:Nat->Nat)(n m i j row:Nat)(A:aJ)(d:Int)(y:i<n)(o:j<n)(h:row<m)(hm:m<=100)(hd:d≠0)(I:nb d KB)(z:∀a r,a<n->r<m->nb (A a r) KB)(R:qM S0 b c n m A) :
  cE 265 [.sl 1 b 0 n,.int .i64 j,.int .i64 i,.int .i64 row,.big d] S0 (fun _ S'=>(∃c',qM S' b c' n m (fun a r=>if a=j then(A i row*A j r-A j row*A i r)/d else A a r))/\iC b S0 S'):=by
 have hKB:=mC;refine ib func265 rfl 58 ntmps265 kr sm ?_
 rw[lg,results265];simp -dsimp only[go_sem];refine aG.intro fun B F=>?_
 try simp -dsimp only[go_sem]
 have f:qM (S0.upd B ⟨50,2,1,fun _=>.big d⟩) b c n m A:=R.ext ((eQ.refl S0).upd F _);obtain⟨J,G,C⟩:=id f.outer;obtain⟨g2,T,U⟩:=id (f.row i y);obtain⟨g3,V,W⟩:=id (f.row j o);have X:J i=.sl 2 (c i) 0 m:=C i y;have Y:J j=.sl 2 (c j) 0 m:=C j o;have Z:=U row h;have x4:=W row h;refine fu 20 [[0,1],[],[]] kr ?_
 simp -dsimp only[go_sem,aa,G,X,Y,y,o,h,T,Z,V,x4];have n1:=z i row y h;have n2:=(z j row o h).neg;refine⟨_,(rY (z j row o h) om).pure',?_⟩;refine(nk n m KB j i A (A i row) (-(A j row)) o y hm z n1 n2 om _ _ (fD.first f.vr.va)).mono ?_
 rintro _ S1 ⟨bd,rfl,K,L,D⟩;obtain⟨nd_9,fd⟩:=ag D;clear G C T U V W X Y Z x4;have p:=f.ext L;obtain⟨J,G,C⟩:=id p.outer;obtain⟨g5,u5,v5⟩:=id K;have M:b≠bd:=bJ.ne p.outer K dc
 simp -dsimp only[go_sem,aa,G,o,eL];generalize hv:(fun r=>A i row*A j r+-A j row*A i r)=v at *;have N:∀r,r<m->nb (v r) (KB+KB+1):=fun r h=>by rw[<-hv];exact(n1.mul (z j r o h)).add (n2.mul (z i r y h))
 refine aH (fun O S'=>∃t:Nat,t<=m/\O 0=.sl 1 b 0 n/\O 1=.int .i64 j/\O 9=.ptr 2 B 0/\O 37=.sl 2 bd 0 m/\O 38=.int .i64 m/\O 39=.int .i64 t/\Sb S0 S' b bd B c n m j t A v d) (fun O S=>m-ca (O 39)) ?_ ?_
 .simp -dsimp only[go_sem];refine⟨0,om,rfl,bJ.here fun a s=>?_,(K.congr fun r _=>by simp).upd (aj M) _,fun a s _=>(p.row a s).upd (aj (p.ne s)) _,?_,?_,fd,F,aj nd_9,fun a s=>bJ.fresh (f.row a s) D⟩
  .simp only[bR];by_cases e:a=j
   .simp[e]
   .simp only[e,aP];exact C a s
  .have h9:dT S1 B 50 2 (.big d):=by
    obtain⟨x,H,k2⟩:=dT.new (S:=S0) (b:=B) (ty:=50) (es:=2) (g:=fun _=>AV.big d) rfl;exact⟨x,L _ _ H,k2⟩
   exact h9.upd (fun e=>by obtain⟨x,H,_⟩:=R.outer;rw[<-e,F]at H;cases H) _
  .exact(iC.ext (((eQ.refl S0).upd F _).trans L)).upd (bM rfl) _
 .rintro O S' ⟨t,ht,e0,e1,e9,u,w,q,k⟩;by_cases l:t<m
  .obtain⟨g6,P,v6⟩:=id k.new;have x6:g6 t=.big (v t):=(v6 t l).trans sm
   obtain⟨g7,u7,v7⟩:=id k.outer;obtain⟨g8,u8,x8⟩:=id k.var;have x7:g7 j=.sl 2 bd 0 m:=(v7 j o).trans sm
   simp -dsimp only[go_sem,aa,u,w,q,l,P];refine aG.intro fun be fe=>?_;have Q:b≠be:=bJ.fresh k.outer fe;have h9e:B≠be:=k.var.fresh fe;have E:bd≠be:=bJ.fresh k.new fe;simp -dsimp only[go_sem,aa,q,x6];refine fu 13 [[10,11]] kr ?_
   simp -dsimp only[go_sem,aa,e0,e1,e9,u,w,q,l,P,u7,x7,u8,x8,o,Q,h9e,E,eL];refine⟨_,(iR (N t l) (I.mono om) om hd).pure',?_⟩;simp -dsimp only[go_sem,aT (om:t<1000000),ca]
   refine⟨⟨t+1,om,rfl,?_⟩,om⟩
   rw[lU];exact(k.other fe _).put (by rw[aN E];exact P)
  .obtain rfl:t=m:=om
   simp -dsimp only[go_sem,u,w,q,l];refine⟨⟨fun a=>if a=j then bd else c a,k.outer,fun a s=>?_⟩,k.keep⟩
   by_cases e:a=j
   .simp only[e,aO];refine k.new.congr fun r h=>?_;simp only[h,aO,<-hv];rw[show A i row*A j r-A j row*A i r=A i row*A j r+-A j row*A i r by rw[xU];omega]
   .simp only[e,aP];exact k.row a s e
def nE(S0:St)(b:Nat)(g:Nat->Nat)(n m j f:Nat)(A:aJ)(M:Int)(h:j<n)(T:m<=100)(D:f<=m)(U:0<M)(k:Nat)(o:nb M k)(V:k<=1000000)(E:∀r,r<m->nb (A j r) k)(p:dA S0 b g n m A) :
  cE 266 [.sl 1 b 0 n,.int .i64 j,.int .i64 f,.big M] S0 (fun _ S'=>dA S' b g n m (fun i r=>if i=j/\f<=r then A i r%M else A i r)/\mM S0 S' b g g n):=by
 refine ib func266 rfl 38 ntmps266 kr sm ?_
 rw[lg,results266];simp -dsimp only[go_sem];refine aG.intro fun bc fc=>?_
 try simp -dsimp only[go_sem]
 have q:b≠bc:=bJ.fresh p.outer fc;have l:∀i,i<n->g i≠bc:=fun i F=>bJ.fresh (p.row i F) fc;refine aH (fun O S'=>∃r:Nat,f<=r/\r<=m/\O 0=.sl 1 b 0 n/\O 1=.int .i64 j/\O 7=.ptr 2 bc 0/\O 8=.int .i64 r/\dA S' b g n m (fun i c=>if i=j/\f<=c/\c<r then A i c%M else A i c)/\dT S' bc 50 2 (.big M)/\mM S0 S' b g g n) (fun O S=>m-ca (O 8)) ?_ ?_
 .simp -dsimp only[go_sem];exact⟨f,om,D,rfl,(p.upd q l _).congr fun i c _ _=>by rw[af om],dT.new rfl,(mM.refl S0 b g n).upd (bO (bO fc)) _⟩
 .rintro O S' ⟨r,G,H,s,t,I,u,d,x,y⟩;obtain⟨J,v,K⟩:=id d.outer;obtain⟨L,B,N⟩:=id (d.row j h);obtain⟨W,P,Q⟩:=id x;have w:J j=.sl 2 (g j) 0 m:=K j h;by_cases a:r<m
  .have R:L r=.big (A j r):=(N r a).trans (by dsimp only;rw[af om])
   simp -dsimp only[go_sem,aa,s,t,u,v,w,h,a];refine fu 19 [[17]] kr ?_
   simp -dsimp only[go_sem,aa,s,t,I,u,v,w,h,a,B,R,P,Q,aT (om:r<1000000),ca]
   refine⟨_,(iR (E r a) o om om).pure',?_⟩;simp -dsimp only[go_sem];refine⟨⟨r+1,om,om,rfl,(d.set (j:=r) (z:=A j r%M) h B).congr fun i c _ _=>?_,x.upd (aj (l j h)) _,y.upd (bO (bM ⟨j,h,rfl⟩)) _⟩,om⟩
   unfold eV;dsimp only;by_cases e:i=j/\c=r
   .obtain⟨rfl,rfl⟩:=e;rw[ai ⟨rfl,rfl⟩,ai om]
   .rw[af e];by_cases C:i=j/\f<=c/\c<r
    .rw[ai C,ai om]
    .rw[af C,af om]
  .obtain rfl:r=m:=om
   simp -dsimp only[go_sem,s,t,u,v,w,h,a];refine Ad om ?_;exact⟨d.congr fun i c _ X=>by
    by_cases e:i=j/\f<=c
    .rw[ai e,ai om]
    .rw[af e,af om],y⟩

end Go.Proofs.YtdobfmlmenaajaaGreatDoor
