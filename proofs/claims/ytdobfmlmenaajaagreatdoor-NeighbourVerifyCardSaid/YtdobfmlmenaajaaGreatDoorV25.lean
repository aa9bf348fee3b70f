/-
  Lemmas for NeighbourVerify.
-/
import Derived.Test.YtdobfmlmenaajaaGreatDoorV24
namespace Go.Proofs.YtdobfmlmenaajaaGreatDoor
open Go.RowKit Tryz
open _root_.Int renaming tmod→eI,tdiv→iX
open _root_.Option renaming none→ab
set_option maxHeartbeats 6400000
set_option maxRecDepth 4096
set_option linter.all false
attribute [local go_sem] Nat.reduceAdd Nat.reduceEqDiff Nat.reduceLeDiff Nat.reduceLT reduceCtorEq Int.ofNat_lt decide_true decide_false Int.zero_le_ofNat
attribute [local go_sem ↓] reduceIte
variable{x x' z:AV}{d:Int}{args l l':List AV}{b b9 es f i j k m n t ty:Nat}{v:Nat->Int}{c g g':Nat->Nat}{S S' S0:St}{A:aH}{X:ft}
def tT(n m:Nat)(A:aH)(g:1<=n)(h:n<=16)(j:1<=m)(k:m<=16):PF 223 [aC n m A] (.bool true):=by
 refine jo func223 ntmps223 results223 ?_;have b:0<n:=om
 have a:(0:Int)<(n:Int):=om
 simp only[go_sem,aW,aC,a,(om:¬((n:Int)<1)),(om:¬((16:Int)<(n:Int))),(om:¬((m:Int)<1)),(om:¬((16:Int)<(m:Int)))]
 refine aI (fun O S=>∃i:Nat,i<=n/\O 0=aC n m A/\O 27=aC n m A/\O 28=.int .i64 n/\O 29=.int .i64 i) (fun O S=>n-co (O 29)) ?_ ?_
 .simp only[go_sem,aW,aC];exact⟨0,om,rfl⟩
 .rintro O S ⟨i,l,o,c,d,e⟩;by_cases f:i<n
  .simp only[*,go_sem,aW,aC,show((m:Int) != m)=false by simp,aS (om:i<1000000),co]
   exact⟨⟨i+1,om,rfl⟩,om⟩
  .simp only[*,go_sem,aW,aC];exact VR.mf rfl
def lu(m:Int)(a:2<=m)(b:m<=2147483647):PF 224 [.int .i64 m] (.int .i64 0):=by
 refine jo func224 ntmps224 results224 ?_;simp only[go_sem,(om:¬(m<2)),(om:¬((2147483647:Int)<m))]
 exact VR.mf rfl
def xD(n:Nat)(A:aH)(b:1<=n)(d:n<=8):PF 226 [aC n n A] (.bool true):=by
 refine jo func226 ntmps226 results226 ?_;have c:0<n:=om
 have a:(0:Int)<(n:Int):=om
 simp -dsimp only[go_sem,aa];refine(tT n n A b om b om).call ?_;simp only[go_sem,aW,aC,a,show((n:Int)<=8) by omega,show((n:Int)==n)=true by simp]
 exact VR.mf rfl
def Fb{x m:Int}(d:1<=m)(a:m<=2147483647):IntKind.i64.wrap (eI x m+m)=eI x m+m/\eI (eI x m+m) m=x%m:=by
 have e:eI x m<m:=Vg x om;have f:-m<eI x m:=by
  have:=Vg (-x) (om:0<m)
  rw[SB]at this;omega
 have b:eI (eI x m+m) m=x%m:=by
  rw[aN om,Int.add_emod_right];have g:x=m*iX x m+eI x m:=(ye x m).symm;have c:x%m=(eI x m+m*iX x m)%m:=by rw[<-(om:x=eI x m+m*iX x m)]
  rw[c,Ml]
 have h:=aT x (om:m≠0)
 have i:=aP x (om:0<m)
 exact⟨i64_in om om,b⟩
def ma(A:aH)(m:Int):aH:=fun i j=>A i j%m
def mS(n k:Nat)(A:aH)(m:Int)(L:n<=16)(M:k<=16)(E:1<=m)(p:m<=2147483647):SG 225 [aC n k A,.int .i64 m] n k (ma A m):=by
 refine SG.of ?_;refine jI func225 ntmps225 results225 ?_;have q:¬(m=0):=om
 simp -dsimp only[go_sem,aW,aC]
 repeat refine an ?_
 refine aG.intro fun bc fc=>?_;simp only[go_sem];refine aI (fun O S'=>∃i:Nat,i<=n/\O 1=.int .i64 m/\O 5=.sl 1 bc 0 n/\O 13=aC n k A/\O 14=.int .i64 n/\O 15=.int .i64 i/\∃g',fL 29 2 1 St.none S' bc g' n k i (fun a j=>.int .i64 (ma A m a j))) (fun O S=>n-co (O 15)) ?_ ?_
 .simp only[go_sem,aW,aC];exact⟨0,om,rfl,fun _=>0,fL.init fc (fun _ _=>rfl) _ _⟩
 .rintro O S' ⟨i,N,r,s,d,f,g,g',b⟩;by_cases l:i<n
  .obtain⟨B,o,t⟩:=id b.outer;simp -dsimp only[*,go_sem,aa,aC,aW]
   repeat refine an ?_
   refine aG.intro fun bd fd=>?_;have F:bc≠bd:=bG.fresh b.outer fd;simp only[*,go_sem];have h:=b.push dc fd o (fun _=>.int .i64 0)
   generalize u:(fun a=>if a=i then bd else g' a)=gg at h
   refine aI (fun O S'=>∃j:Nat,j<=k/\O 1=.int .i64 m/\O 5=.sl 1 bc 0 n/\O 6=.int .i64 i/\O 13=aC n k A/\O 14=.int .i64 n/\O 15=.int .i64 i/\O 26=aW k (A i)/\O 27=.int .i64 k/\O 28=.int .i64 j/\fL 29 2 1 St.none S' bc gg n k (i+1) (fun a c=>.int .i64 (if a=i/\j<=c then 0 else ma A m a c))) (fun O S=>k-co (O 28)) ?_ ?_
   .simp only[*,go_sem,aC,aW];refine⟨0,om,rfl,h.congr fun a c _ _=>?_⟩
    by_cases e:a=i
    .simp[e]
    .simp[e]
   .clear r s d f g b h o t u;rintro O S' ⟨j,P,r,s,G,d,f,g,v,w,y,b⟩;by_cases z:j<k
    .obtain⟨B,o,t⟩:=id b.outer;obtain⟨Q,C,R⟩:=id (b.row i om);have H:B i=.sl 1 (gg i) 0 k:=(t i l).trans (ah om);obtain⟨I,J⟩:=Fb (x:=A i j) E p;simp -dsimp only[*,go_sem,aC,aW];refine bD 13 kr ?_
     simp only[go_sem,aa,aC,aW,r,s,G,d,f,g,v,w,y,l,z,o,H,C,q,I,J,aS (om:j<1000000),co]
     refine⟨⟨j+1,om,rfl,(b.put dc (om:i<i+1) C j (.int .i64 (ma A m i j))).congr fun a c _ _=>?_⟩,om⟩
     by_cases e:a=i/\c=j
     .obtain⟨rfl,rfl⟩:=e;rw[ah ⟨rfl,rfl⟩,af om]
     .rw[af e];congr 1;by_cases D:a=i/\j<=c
      .rw[ah D,ah om]
      .rw[af D,af om]
    .simp only[*,go_sem,aC,aW,aS (om:i<1000000),co]
     exact⟨⟨i+1,om,rfl,gg,b.congr fun a c _ T=>by rw[af om]⟩,om⟩
  .obtain rfl:i=n:=om
   have K:=b.imat (A:=ma A m) (fun _ _ _ _=>rfl);simp only[*,go_sem,aa,aC,aW];exact⟨bc,rfl,g',K.1⟩
def Gv(f:Nat)(args:List AV)(n m:Nat)(A:Nat->Nat->Int):Prop:=∀S args',fH S args' args->cZ f args' S (fun r S'=>∃b g,r=.tup [.sl 1 b 0 n,.int .i64 0]/\qL S S' b g n m A)
def Gv.of{A:Nat->Nat->Int}(h:cZ f args St.none (fun r S'=>∃b g,r=.tup [.sl 1 b 0 n,.int .i64 0]/\dZ S' b g n m A)):Gv f args n m A:=fun S args' c=>by
 have d:cZ f args St.none (fun r S'=>∃b g,r=.tup [.sl 1 b 0 n,.int .i64 0]/\dZ S' b g n m A/\Kq S'):=h.less fun r S' ⟨b,g,e,a⟩=>⟨ik S' b g n,jQ S' b g n,b,g,e,a.only.1,a.only.2⟩;refine(d.frame c ?_).mono ?_
 .rintro r S1 ⟨b,g,rfl,_,i⟩;exact⟨rfl,i⟩
 .rintro r S' ⟨S1,⟨b,g,rfl,a,_⟩,j,rfl⟩;exact⟨b,g,rfl,a.join j⟩
def yb(n k:Nat)(A:aH)(m:Int)(e:1<=n)(c:n<=16)(f:1<=k)(d:k<=16)(h:2<=m)(a:m<=2147483647):Gv 176 [aC n k A,.int .i64 m] n k (ma A m):=by
 refine Gv.of ?_;refine jI func176 ntmps176 results176 ?_;simp -dsimp only[go_sem,aa];refine(tT n k A e c f d).call ?_;simp -dsimp only[go_sem,aa];refine(lu m h a).call ?_;simp -dsimp only[go_sem,aa];refine(mS n k A m c d om a _ _ (cY _ _)).mono ?_;rintro _ S' ⟨b,g,rfl,i⟩;simp only[go_sem];exact⟨b,rfl,g,i.1⟩
def lh(A B:aH)(K:Nat)(m:Int):aH:=fun i j=>(aq K fun t=>A i t*B t j)%m
def Hk(n K l:Nat)(A B:aH)(m:Int)(hn:n<=16)(hK:1<=K)(M:K<=16)(hl:l<=16)(hm:1<=m)(N:m<=2147483647)(P:∀i j,i<n->j<K->0<=A i j/\A i j<m)(Q:∀i j,i<K->j<l->0<=B i j/\B i j<m):SG 231 [aC n K A,aC K l B,.int .i64 m] n l (lh A B K m):=by
 refine SG.of ?_;refine jI func231 ntmps231 results231 ?_;have y:¬(m=0):=om
 have R:0<K:=om
 have T:(0:Int)<(K:Int):=om
 simp -dsimp only[go_sem,aW,aC]
 repeat refine an ?_
 refine aG.intro fun bc fc=>?_;simp only[go_sem];refine aI (fun O S'=>∃i:Nat,i<=n/\O 1=aC K l B/\O 2=.int .i64 m/\O 7=.sl 1 bc 0 n/\O 17=aC n K A/\O 18=.int .i64 n/\O 19=.int .i64 i/\∃g',fL 29 2 1 St.none S' bc g' n l i (fun a j=>.int .i64 (lh A B K m a j))) (fun O S=>n-co (O 19)) ?_ ?_
 .simp only[go_sem,aW,aC];exact⟨0,om,rfl,fun _=>0,fL.init fc (fun _ _=>rfl) _ _⟩
 .rintro O S' ⟨i,hi,u,h,v,d,f,g,g',b⟩;by_cases o:i<n
  .obtain⟨I,x,z⟩:=id b.outer;simp -dsimp only[*,go_sem,aa,aC,aW]
   repeat refine an ?_
   refine aG.intro fun bd fd=>?_;have U:bc≠bd:=bG.fresh b.outer fd;simp only[*,go_sem];have p:=b.push dc fd x (fun _=>.int .i64 0)
   generalize C:(fun a=>if a=i then bd else g' a)=gg at p
   refine aI (fun O S'=>∃k:Nat,k<=K/\O 1=aC K l B/\O 2=.int .i64 m/\O 7=.sl 1 bc 0 n/\O 8=.int .i64 i/\O 17=aC n K A/\O 18=.int .i64 n/\O 19=.int .i64 i/\O 32=aW K (A i)/\O 33=.int .i64 K/\O 34=.int .i64 k/\fL 29 2 1 St.none S' bc gg n l (i+1) (fun a c=>.int .i64 (if a=i then lh A B k m i c else lh A B K m a c))) (fun O S=>K-co (O 34)) ?_ ?_
   .simp only[*,go_sem,aC,aW];refine⟨0,om,rfl,p.congr fun a c _ _=>?_⟩
    by_cases e:a=i
    .simp[e,lh,aq]
    .simp[e]
   .clear u h v d f g b p x z C;rintro O S' ⟨k,hk,u,h,v,D,d,f,g,q,r,s,b⟩;by_cases w:k<K
    .simp only[*,go_sem,aC,aW];refine aI (fun O S'=>∃j:Nat,j<=l/\O 1=aC K l B/\O 2=.int .i64 m/\O 7=.sl 1 bc 0 n/\O 8=.int .i64 i/\O 11=.int .i64 (A i k)/\O 17=aC n K A/\O 18=.int .i64 n/\O 19=.int .i64 i/\O 32=aW K (A i)/\O 33=.int .i64 K/\O 34=.int .i64 k/\O 42=aW l (B k)/\O 43=.int .i64 l/\O 44=.int .i64 j/\fL 29 2 1 St.none S' bc gg n l (i+1) (fun a c=>.int .i64 (if a=i then(if c<j then lh A B (k+1) m i c else lh A B k m i c)else lh A B K m a c))) (fun O S=>l-co (O 44)) ?_ ?_
     .simp only[*,go_sem,aC,aW];exact⟨0,om,rfl,b.congr fun a c _ _=>by simp⟩
     .clear u h v D d f g q r s b;rintro O S' ⟨j,hj,u,h,v,D,E,d,f,g,q,r,s,F,G,H,b⟩;by_cases t:j<l
      .obtain⟨I,x,z⟩:=id b.outer;obtain⟨V,J,W⟩:=id (b.row i om);have X:I i=.sl 1 (gg i) 0 l:=(z i o).trans (ah om);have Y:V j=.int .i64 (lh A B k m i j):=(W j t).trans sm
       have b1:=P i k o w;have b2:=Q k j w t;have b3:0<=lh A B k m i j/\lh A B k m i j<m:=⟨aT _ om,aP _ om⟩;have b4:=oP (A:=2147483646) (B:=2147483646) (om:0<=A i k/\A i k<=2147483646) (om:0<=B k j/\B k j<=2147483646)
       have Z:IntKind.i64.wrap (A i k*B k j)=A i k*B k j:=i64_in om om;have q2:IntKind.i64.wrap (lh A B k m i j+A i k*B k j)=lh A B k m i j+A i k*B k j:=i64_in om om;have q3:eI (lh A B k m i j+A i k*B k j) m=lh A B (k+1) m i j:=by
        rw[aN om];simp only[lh,aq];rw[Int.emod_add_emod]
       simp -dsimp only[*,go_sem,aC,aW];refine bD 19 kr ?_
       simp only[go_sem,aa,aC,aW,u,h,v,D,E,d,f,g,q,r,s,F,G,H,o,t,x,X,J,Y,y,Z,q2,q3,aS (om:j<1000000),co]
       refine⟨⟨j+1,om,rfl,(b.put dc (om:i<i+1) J j (.int .i64 (lh A B (k+1) m i j))).congr fun a c _ _=>?_⟩,om⟩
       by_cases e:a=i/\c=j
       .obtain⟨rfl,rfl⟩:=e;simp
       .rw[af e];congr 1;by_cases h:a=i
        .rw[ah h,ah h];by_cases L:c<j
         .rw[ah L,ah om]
         .rw[af L,af om]
        .rw[af h,af h]
      .simp only[*,go_sem,aC,aW,aS (om:k<1000000),co]
       exact⟨⟨k+1,om,rfl,b.congr fun a c _ hc=>by rw[ah (om:c<j)]⟩,om⟩
    .obtain rfl:k=K:=om
     simp only[*,go_sem,aC,aW,aS (om:i<1000000),co]
     exact⟨⟨i+1,om,rfl,gg,b.congr fun a c _ hc=>by by_cases e:a=i<;>simp[e]⟩,om⟩
  .obtain rfl:i=n:=om
   have hN:=b.imat (A:=lh A B K m) (fun _ _ _ _=>rfl);simp only[*,go_sem,aa,aC,aW];exact⟨bc,rfl,g',hN.1⟩

def VA.ptr(e:en S b ty es x)(f:VA S x x'):VA S (.ptr es b 0) (.pat es x'):=by
 intro w v a c;obtain⟨g',g,h⟩:=e;obtain⟨cs,d,m,i,n⟩:=a b _ g;simp only[bM]at c ⊢;subst c;obtain⟨u,j,k⟩:=i 0 (by simp only;omega)
 refine⟨b,es*0,u,rfl,gJ d,fun l=>l,⟨cs,ty,(0,0),d,j⟩,f w u a ?_⟩;rw[<-h];exact k
def VA.fn(h:fH S l l'):VA S (.fn f l) (.fn f l'):=by
 intro w v b a;simp only[bM]at a ⊢;obtain⟨vs,rfl,c⟩:=a;exact⟨vs,rfl,yR b _ _ _ h c⟩
def lz(n m:Nat)(A:aH)(g:1<=n)(h:n<=16)(j:1<=m)(k:m<=16):PF 97 [aU n m A] (.tup [.int .i64 n,.int .i64 m,.bool true]):=by
 refine jo func97 ntmps97 results97 ?_;have b:0<n:=om
 have a:(0:Int)<(n:Int):=om
 simp only[go_sem,bC,aU,a,(om:¬((n:Int)<1)),(om:¬((16:Int)<(n:Int))),(om:¬((m:Int)<1)),(om:¬((16:Int)<(m:Int)))]
 refine aI (fun O S=>∃i:Nat,i<=n/\O 0=aU n m A/\O 5=.int .i64 m/\O 26=aU n m A/\O 27=.int .i64 n/\O 28=.int .i64 i) (fun O S=>n-co (O 28)) ?_ ?_
 .simp only[go_sem,bC,aU];exact⟨0,om,rfl⟩
 .rintro O S ⟨i,l,o,p,c,d,e⟩;by_cases f:i<n
  .simp only[*,go_sem,bC,aU,show((m:Int) != m)=false by simp,aS (om:i<1000000),co]
   exact⟨⟨i+1,om,rfl⟩,om⟩
  .simp only[*,go_sem,bC,aU];exact VR.tup (by simp[qZ])
def Fm(n m:Nat)(A:aH)(g:1<=n)(h:n<=16)(j:1<=m)(k:m<=16):PF 154 [aC n m A] (.tup [.int .i64 n,.int .i64 m,.bool true]):=by
 refine jo func154 ntmps154 results154 ?_;have b:0<n:=om
 have a:(0:Int)<(n:Int):=om
 simp only[go_sem,aW,aC,a,(om:¬((n:Int)<1)),(om:¬((16:Int)<(n:Int))),(om:¬((m:Int)<1)),(om:¬((16:Int)<(m:Int)))]
 refine aI (fun O S=>∃i:Nat,i<=n/\O 0=aC n m A/\O 5=.int .i64 m/\O 26=aC n m A/\O 27=.int .i64 n/\O 28=.int .i64 i) (fun O S=>n-co (O 28)) ?_ ?_
 .simp only[go_sem,aW,aC];exact⟨0,om,rfl⟩
 .rintro O S ⟨i,l,o,p,c,d,e⟩;by_cases f:i<n
  .simp only[*,go_sem,aW,aC,show((m:Int) != m)=false by simp,aS (om:i<1000000),co]
   exact⟨⟨i+1,om,rfl⟩,om⟩
  .simp only[*,go_sem,aW,aC];exact VR.tup (by simp[qZ])
def rJ(n m F:Nat)(l:List AV)(A:aH)(G:11<=F/\F<252)(H:n<=16)(I:m<=16)(z:∀i j:Nat,i<n->j<m->PF F ([.int .i64 i,.int .i64 j]++l) (.big (A i j))):MF 131 [.int .i64 n,.int .i64 m,.fn F l] n m A:=by
 refine MF.of ?_;refine jI func131 ntmps131 results131 ?_;simp -dsimp only[go_sem]
 repeat refine an ?_
 refine aG.intro fun bc fc=>?_;simp only[go_sem];refine aI (fun O S'=>∃i:Nat,i<=n/\O 1=.int .i64 m/\O 2=.fn F l/\O 7=.sl 1 bc 0 n/\O 13=.int .i64 n/\O 14=.int .i64 i/\∃g',fL 59 50 2 St.none S' bc g' n m i (fun a j=>.big (A a j))) (fun O S=>n-co (O 14)) ?_ ?_
 .simp only[go_sem];exact⟨0,om,rfl,fun _=>0,fL.init fc (fun _ _=>rfl) _ _⟩
 .rintro O S' ⟨i,J,q,k,r,d,f,g',b⟩;by_cases g:i<n
  .obtain⟨s,p,t⟩:=id b.outer;simp -dsimp only[*,go_sem,aa]
   repeat refine an ?_
   refine aG.intro fun bd fd=>?_;have B:bc≠bd:=bG.fresh b.outer fd;have x:bR s i (.sl 2 bd 0 m) i=.sl 2 bd 0 m:=by simp[bR]
   simp only[*,go_sem];have h:=b.push dc fd p (fun _=>.big 0)
   generalize u:(fun a=>if a=i then bd else g' a)=gg at h
   refine aI (fun O S'=>∃j:Nat,j<=m/\O 1=.int .i64 m/\O 2=.fn F l/\O 7=.sl 1 bc 0 n/\O 8=.int .i64 i/\O 13=.int .i64 n/\O 14=.int .i64 i/\O 26=.int .i64 m/\O 27=.int .i64 j/\fL 59 50 2 St.none S' bc gg n m (i+1) (fun a c=>.big (if a=i/\j<=c then 0 else A a c))) (fun O S=>m-co (O 27)) ?_ ?_
   .simp only[*,go_sem];refine⟨0,om,rfl,h.congr fun a c _ _=>?_⟩
    by_cases e:a=i
    .simp[e]
    .simp[e]
   .clear q k r d f b h p t u;rintro O S' ⟨j,K,q,k,r,C,d,f,v,w,b⟩;by_cases o:j<m
    .obtain⟨s,p,t⟩:=id b.outer;obtain⟨L,y,M⟩:=id (b.row i om);have D:s i=.sl 2 (gg i) 0 m:=(t i g).trans (ah om);simp -dsimp only[*,go_sem];refine bD 10 kr ?_
     simp only[go_sem,aa,q,k,r,C,d,f,v,w,g,o,p,D,y,aS (om:j<1000000),co]
     repeat refine an ?_
     refine⟨_,(z i j g o).pure',trivial,⟨j+1,om,rfl,(b.put dc (om:i<i+1) y j (.big (A i j))).congr fun a c _ _=>?_⟩,om⟩
     by_cases e:a=i/\c=j
     .obtain⟨rfl,rfl⟩:=e;rw[ah ⟨rfl,rfl⟩,af om]
     .rw[af e];congr 1;by_cases k:a=i/\j<=c
      .rw[ah k,ah om]
      .rw[af k,af om]
    .simp only[*,go_sem,aS (om:i<1000000),co]
     exact⟨⟨i+1,om,rfl,gg,b.congr fun a c _ N=>by rw[af om]⟩,om⟩
  .obtain rfl:i=n:=om
   have E:=b.mat (A:=A) (fun _ _ _ _=>rfl);simp only[*,go_sem,aa];exact⟨bc,rfl,g',E.1⟩
def Ew(n m:Nat)(A:aH)(i j:Nat)(b:i<n)(c:j<m)(a:-9223372036854775808<=A i j/\A i j<=9223372036854775807):PF 155 [.int .i64 i,.int .i64 j,.pat 1 (aC n m A)] (.big (A i j)):=by
 refine jo func155 ntmps155 results155 ?_;simp -dsimp only[go_sem];refine aG.intro fun bc fc=>?_
 try simp -dsimp only[*,go_sem,aC,aW]
 refine(ld a.1 a.2).call ?_;simp only[go_sem,aa];exact VR.mf rfl
def PY(n m k:Nat)(A:aH)(i j:Nat)(b:i<n)(c:j<m)(a:nb (A i j) k)(d:k<=1000000000):PF 212 [.int .i64 i,.int .i64 j,.pat 1 (aU n m A)] (.big (-A i j)):=by
 refine jo func212 ntmps212 results212 ?_;simp -dsimp only[go_sem];refine aG.intro fun bc fc=>?_
 try simp -dsimp only[*,go_sem,aU,bC]
 refine(tA a om).call ?_;simp only[go_sem,aa];exact VR.mf rfl
def Hf(k:Nat)(z:Int)(i j:Nat)(a:nb z k)(b:k<=1000000000):PF 238 [.int .i64 i,.int .i64 j,.pat 2 (.big z)] (.big (if i=j then z else 0)):=by
 refine jo func238 ntmps238 results238 ?_;simp -dsimp only[go_sem];refine aG.intro fun bc fc=>?_;by_cases e:i=j
 .subst e
  try simp -dsimp only[go_sem,show((i:Int)==i)=true by simp]
  refine(sd a om).call ?_;simp only[go_sem,aa];exact VR.mf rfl
 .try simp only[go_sem,e,show((i:Int)==j)=false by simp;omega]
  exact VR.mf rfl
def fH.fn1{a b:AV}(h:fH S l l'):fH S [a,b,.fn f l] [a,b,.fn f l']:=⟨VA.refl _ _,VA.refl _ _,VA.fn h,trivial⟩
def fH.one(h:VA S x x'):fH S [x] [x']:=⟨h,trivial⟩
def fH.three{y y' z':AV}(h:VA S x x')(a:VA S y y')(b:VA S z z'):fH S [x,y,z] [x',y',z']:=⟨h,a,b,trivial⟩
def fE{g:Nat->AV}:bR g i x i=x:=by simp[bR]
def po(n m:Nat)(A:aH)(f:1<=n)(a:n<=16)(h:1<=m)(c:m<=16)(k:∀i j,i<n->j<m->-9223372036854775808<=A i j/\A i j<=9223372036854775807):CQ 93 [aC n m A] n m A:=by
 refine CQ.of ?_;refine jI func93 ntmps93 results93 ?_;simp -dsimp only[go_sem,aa,aC,aW];refine aG.intro fun bc fc=>?_
 try simp -dsimp only[go_sem]
 refine(Fm n m A f a h c).call ?_;simp -dsimp only[go_sem,aa];refine(rJ n m 155 [.pat 1 (aC n m A)] A om a c (fun i j d e=>Ew n m A i j d e (k i j d e)) _ _ (fH.fn1 (fH.one (VA.ptr (en.new rfl) (VA.refl _ _))))).mono ?_;rintro _ S1 ⟨b,g,rfl,l⟩;simp only[go_sem];exact⟨b,rfl,g,l.1⟩
def KT(n k:Nat)(z:Int)(a:n<=16)(c:nb z k)(d:k<=1000000000):MF 190 [.int .i64 n,.big z] n n (fun i j=>if i=j then z else 0):=by
 refine MF.of ?_;refine jI func190 ntmps190 results190 ?_;simp -dsimp only[go_sem,aa];refine aG.intro fun bc fc=>?_
 try simp -dsimp only[go_sem]
 refine(rJ n n 238 [.pat 2 (.big z)] (fun i j=>if i=j then z else 0) om a a (fun i j f h=>Hf k z i j c d) _ _ (fH.fn1 (fH.one (VA.ptr (en.new rfl) (VA.refl _ _))))).mono ?_
 rintro _ S1 ⟨b,g,rfl,e⟩;simp only[go_sem];exact⟨b,rfl,g,e.1⟩
theorem se{f:Nat->Int}{k:Nat}:∀(t:Nat),(∀i,i<t->nb (f i) k)->nb (aq t f) (k+t)
 | 0,_=>nb.zero _
 | t+1,h=>by
  have a:=se t (fun i c=>h i om);have b:=(h t om).mono (om:k<=k+t)
  exact a.add b
def Ry(n K l k:Nat)(A B:aH)(i j:Nat)(d:i<n)(e:j<l)(s:K<=16)(g:∀i j,i<n->j<K->nb (A i j) k)(h:∀i j,i<K->j<l->nb (B i j) k)(u:k<=1000000):PF 132 [.int .i64 i,.int .i64 j,.pat 1 (.int .i64 K),.pat 1 (aU n K A),.pat 1 (aU K l B)] (.big (mm K A B i j)):=by
 refine jo func132 ntmps132 results132 ?_;simp -dsimp only[go_sem];refine aG.intro fun bc fc=>?_
 try simp -dsimp only[go_sem]
 refine aG.intro fun bd fd=>?_;have nd_c:=(ag fd).1
 try simp only[go_sem]
 refine aI (fun O S'=>∃t:Nat,t<=K/\O 0=.int .i64 i/\O 1=.int .i64 j/\O 3=.pat 1 (aU n K A)/\O 4=.pat 1 (aU K l B)/\O 7=.ptr 2 bc 0/\O 8=.ptr 2 bd 0/\O 11=.int .i64 K/\O 12=.int .i64 t/\en S' bc 50 2 (.big 0)/\en S' bd 50 2 (.big (aq t fun a=>A i a*B a j))) (fun O S=>K-co (O 12)) ?_ ?_
 .simp only[go_sem];exact⟨0,om,rfl,((en.new rfl).upd (aj nd_c) _).upd (aj nd_c) _,en.set⟩
 .rintro O S' ⟨t,v,w,x,y,z,C,D,o,p,c,m⟩;obtain⟨E,F,G⟩:=id c;obtain⟨H,I,J⟩:=id m;by_cases b:t<K
  .simp -dsimp only[*,go_sem,aa];refine bD 17 kr ?_
   simp only[*,go_sem,aa,aU,bC,aS (om:t<1000000),co]
   have q:=se (f:=fun a=>A i a*B a j) (k:=k+k) t (fun a L=>(g i a d om).mul (h a j om e));have r:=((g i t d b).mul (h t j b e)).mono (om:k+k<=k+k+t)
   exact⟨_,(qr (g i t d b) (h t j b e) om).pure',_,(wO q r om).pure',trivial,⟨t+1,om,rfl,c.upd (aj nd_c) _,en.set⟩,om⟩
  .obtain rfl:t=K:=om
   simp only[*,go_sem,aa];simp only[bR,aK];exact VR.mf rfl
def Hv(n m k:Nat)(A:aH)(p:1<=n)(f:n<=16)(h:m<=16)(l:∀i j,i<n->j<m->nb (A i j) k)(q:k<=1000000):MF 163 [aU n m A] n m (fun i j=>- A i j):=by
 refine MF.of ?_;refine jI func163 ntmps163 results163 ?_;have c:0<n:=om
 have a:(0:Int)<(n:Int):=om
 simp -dsimp only[go_sem,aU,bC];refine aG.intro fun bc fc=>?_
 try simp -dsimp only[go_sem,aU,bC,c,a]
 refine bD 7 kr ?_
 simp -dsimp only[go_sem,aa,a];refine(rJ n m 212 [.pat 1 (aU n m A)] (fun i j=>- A i j) om f h (fun i j d e=>PY n m k A i j d e (l i j d e) om) _ _ (fH.fn1 (fH.one (VA.ptr (en.new rfl) (VA.refl _ _))))).mono ?_;rintro _ S1 ⟨b,g,rfl,o⟩;simp only[go_sem];exact⟨b,rfl,g,o.1⟩
def vE(n K l k:Nat)(A B:aH)(m:1<=n)(e:n<=16)(f:1<=K)(d:K<=16)(o:1<=l)(h:l<=16)(p:∀i j,i<n->j<K->nb (A i j) k)(q:∀i j,i<K->j<l->nb (B i j) k)(r:k<=1000000):CQ 80 [aU n K A,aU K l B] n l (mm K A B):=by
 refine CQ.of ?_;refine jI func80 ntmps80 results80 ?_;simp -dsimp only[go_sem,aa,aU,bC];refine aG.intro fun bc fc=>?_
 try simp -dsimp only[go_sem,aU,bC]
 refine aG.intro fun bd fd=>?_;have nd_c:=(ag fd).1
 try simp -dsimp only[go_sem,aj nd_c]
 refine(lz n K A m e f d).call ?_;simp -dsimp only[go_sem,aa];refine aG.intro fun be fe=>?_;have ne_d:=(ag fe).1;have ne_c:=(ag (ag fe).2).1
 try simp -dsimp only[go_sem,aj ne_d]
 refine(lz K l B f d o h).call ?_;simp -dsimp only[go_sem,aa,show((K:Int) != K)=false by simp,fE]
 have s:bc≠bd:=aj nd_c;have a:bc≠be:=aj ne_c;have c:bd≠be:=aj ne_d;refine(rJ n l 132 [.pat 1 (.int .i64 K),.pat 1 (aU n K A),.pat 1 (aU K l B)] (mm K A B) om e h (fun i j t u=>Ry n K l k A B i j t u d p q r) _ _ (fH.fn1 (fH.three (VA.ptr en.set (VA.refl _ _)) (VA.ptr ((((en.new rfl).upd s _).upd a _).upd a _) (VA.refl _ _)) (VA.ptr (((en.new rfl).upd c _).upd c _) (VA.refl _ _))))).mono ?_;rintro _ S1 ⟨b,g,rfl,v⟩;simp only[go_sem];exact⟨b,rfl,g,v.1⟩

def LF(f:Nat)(args:List AV)(n:Nat)(v:Nat->Int):Prop:=∀S args',fH S args' args->cZ f args' S (fun r S'=>∃b,r=.sl 2 b 0 n/\jx S' b n v/\fM S S'/\S b=ab)
def zW(S:St)(b:Nat):St:=fun k=>if k=b then S k else ab
def Nl(S:St)(b:Nat):∀c X,zW S b c=some X->S c=some X:=by
 intro c X h;unfold zW at h;split at h
 .exact h
 .cases h
def jx.only(h:jx S b n v):jx (zW S b) b n v/\Kq (zW S b):=by
 obtain⟨g',d,f⟩:=h;refine⟨⟨g',by simp[zW,d],f⟩,fun c X a j g=>?_⟩
 unfold zW at a;split at a
 .rename_i e;subst e;rw[a]at d;cases d;show AB (g' j)=true;rw[f j g];rfl
 .cases a
def LF.of(h:cZ f args St.none (fun r S'=>∃b,r=.sl 2 b 0 n/\jx S' b n v)):LF f args n v:=fun S args' d=>by
 have g:cZ f args St.none (fun r S'=>∃b,r=.sl 2 b 0 n/\jx S' b n v/\Kq S'):=h.less fun r S' ⟨b,e,a⟩=>⟨zW S' b,Nl S' b,b,e,a.only.1,a.only.2⟩;refine(g.frame d ?_).mono ?_
 .rintro r S1 ⟨b,rfl,_,i⟩;exact⟨rfl,i⟩
 .rintro r S' ⟨S1,⟨b,rfl,a,_⟩,c,rfl⟩;exact⟨b,rfl,(bG.join c a).1,rF S S1,(bG.join c a).2⟩
def oB(n m k i j:Nat)(A:aH)(a b:Int)(o:i<n)(p:j<n)(D:m<=100)(h:∀c r,c<n->r<m->nb (A c r) k)(q:nb a k)(s:nb b k)(E:k<=1000000) :
  LF 269 [aU n m A,.int .i64 i,.big a,.int .i64 j,.big b] m (fun r=>a*A i r+b*A j r):=by
 refine LF.of ?_;refine jI func269 ntmps269 results269 ?_;simp -dsimp only[go_sem,aU,bC];refine aG.intro fun bc fc=>?_
 try simp -dsimp only[go_sem,aU,bC]
 refine aG.intro fun bd fd=>?_;have nd_c:=(ag fd).1;simp -dsimp only[go_sem,o]
 repeat refine an ?_
 refine aG.intro fun be fe=>?_;have ne_d:=(ag fe).1;have ne_c:=(ag (ag fe).2).1;simp only[go_sem];refine aI (fun O S'=>∃t:Nat,t<=m/\O 0=aU n m A/\O 1=.int .i64 i/\O 3=.int .i64 j/\O 7=.ptr 2 bc 0/\O 9=.ptr 2 bd 0/\O 11=.sl 2 be 0 m/\O 20=.int .i64 m/\O 21=.int .i64 t/\en S' bc 50 2 (.big a)/\en S' bd 50 2 (.big b)/\jx S' be m (fun r=>if r<t then a*A i r+b*A j r else 0)) (fun O S=>m-co (O 21)) ?_ ?_
 .simp only[go_sem,aU,bC];exact⟨0,om,rfl,((en.new rfl).upd (aj nd_c) _).upd (aj ne_c) _,(en.new rfl).upd (aj ne_d) _,bG.here fun r l=>by simp⟩
 .rintro O S' ⟨t,F,G,H,I,J,K,w,x,y,f,g,u⟩;obtain⟨L,M,N⟩:=id f;obtain⟨P,Q,R⟩:=id g;obtain⟨T,U,z⟩:=id u;by_cases d:t<m
  .simp -dsimp only[*,go_sem];refine bD 22 kr ?_
   simp only[*,go_sem,aa,aU,bC,aS (om:t<1000000),co]
   have B:=q.mul (h i t o d);have C:=s.mul (h j t p d);exact⟨_,(qr q (h i t o d) om).pure',_,(qr s (h j t p d) om).pure',_,(wO B C om).pure',trivial,⟨t+1,om,rfl,f.upd (aj ne_c) _,g.upd (aj ne_d) _,bG.here fun r l=>by
    simp only[bR];by_cases e:r=t
    .subst e;simp
    .rw[af e,z r l];by_cases v:r<t
     .simp[v,(om:r<t+1)]
     .simp[v,(om:¬r<t+1)]⟩,om⟩
  .obtain rfl:t=m:=om
   simp only[*,go_sem];exact⟨be,rfl,u.congr fun r l=>by simp[l]⟩
def uS(n m:Nat)(A:aH)(F:1<=n)(G:n<=16)(H:m<=16):MF 258 [aU n m A] m n (fun j i=>A i j):=by
 refine MF.of ?_;refine jI func258 ntmps258 results258 ?_;have z:0<n:=om
 have l:(0:Int)<(n:Int):=om
 simp -dsimp only[go_sem,aU,bC,l]
 repeat refine an ?_
 refine aG.intro fun bc fc=>?_;simp only[go_sem];refine aI (fun O S'=>∃j:Nat,j<=m/\O 0=aU n m A/\O 3=.sl 1 bc 0 m/\O 13=.int .i64 m/\O 14=.int .i64 j/\∃g',fL 59 50 2 St.none S' bc g' m n j (fun a i=>.big (A i a))) (fun O S=>m-co (O 14)) ?_ ?_
 .simp only[go_sem,aU,bC];exact⟨0,om,rfl,fun _=>0,fL.init fc (fun _ _=>rfl) _ _⟩
 .rintro O S' ⟨j,I,o,p,d,f,g',b⟩;by_cases h:j<m
  .obtain⟨w,k,q⟩:=id b.outer;simp -dsimp only[*,go_sem,aa,aU,bC]
   repeat refine an ?_
   refine aG.intro fun bd fd=>?_;have B:bc≠bd:=bG.fresh b.outer fd;simp only[*,go_sem];have g:=b.push dc fd k (fun _=>.big 0)
   generalize r:(fun a=>if a=j then bd else g' a)=gg at g
   refine aI (fun O S'=>∃i:Nat,i<=n/\O 0=aU n m A/\O 3=.sl 1 bc 0 m/\O 4=.int .i64 j/\O 13=.int .i64 m/\O 14=.int .i64 j/\O 23=aU n m A/\O 24=.int .i64 n/\O 25=.int .i64 i/\fL 59 50 2 St.none S' bc gg m n (j+1) (fun a c=>.big (if a=j/\i<=c then 0 else A c a))) (fun O S=>n-co (O 25)) ?_ ?_
   .simp only[*,go_sem,aU,bC];refine⟨0,om,rfl,g.congr fun a c _ _=>?_⟩
    by_cases e:a=j
    .simp[e]
    .simp[e]
   .clear o p d f b g k q r;rintro O S' ⟨i,J,o,p,C,d,f,s,t,u,b⟩;by_cases v:i<n
    .obtain⟨w,k,q⟩:=id b.outer;obtain⟨K,x,L⟩:=id (b.row j om);have D:w j=.sl 2 (gg j) 0 n:=(q j h).trans (ah om);simp -dsimp only[*,go_sem,aU,bC];refine bD 10 kr ?_
     simp only[go_sem,aa,o,p,C,d,f,s,t,u,h,v,k,D,x,aU,bC,aS (om:i<1000000),co]
     refine⟨⟨i+1,om,rfl,(b.put dc (om:j<j+1) x i (.big (A i j))).congr fun a c _ _=>?_⟩,om⟩
     by_cases e:a=j/\c=i
     .obtain⟨rfl,rfl⟩:=e;rw[ah ⟨rfl,rfl⟩,af om]
     .rw[af e];congr 1;by_cases y:a=j/\i<=c
      .rw[ah y,ah om]
      .rw[af y,af om]
    .simp only[*,go_sem,aa,aS (om:j<1000000),co]
     exact⟨⟨j+1,om,rfl,rfl,gg,b.congr fun a c _ M=>by rw[af om]⟩,om⟩
  .obtain rfl:j=m:=om
   have E:=b.mat (A:=fun j i=>A i j) (fun _ _ _ _=>rfl);simp only[*,go_sem,aa];exact⟨bc,rfl,g',E.1⟩

def JN{z:Int}{B:Nat}(h:z.natAbs<=B)(a:B<2^k):nb z k:=eS h a
def z9{z:Nat}(h:z<2^k):nb (z:Int) k:=by unfold nb;simpa using h
def en.at_hit{g:Nat->AV}:en (S.upd b ⟨ty,es,1,g⟩) b ty es z=(g 0=z) :=
 propext ⟨fun⟨g',a,c⟩=>by rw[cp]at a;cases a;exact c,fun h=>⟨g,cp,h⟩⟩
def en.at_miss{c:Nat}(h:b≠c):en (S.upd c X) b ty es z=en S b ty es z:=by
 unfold en;rw[aO h]
def Ik(x y:Nat):(x:Int)/(y:Int)=((x/y:Nat):Int)/\(x:Int)%(y:Int)=((x%y:Nat):Int):=⟨sm,sm⟩
def TO:St->AV->Nat
 | S,.ptr _ b _=>(match S b with
  | some X=>(match X.g 0 with
   | .big z=>z.toNat
   | _=>0)
  | _=>0)
 | _,_=>0
def Ga{z:Int}(h:en S b 50 2 (.big z)):TO S (.ptr 2 b 0)=z.toNat:=by
 obtain⟨g,a,c⟩:=h;simp only[TO,a,c]
def BzS(S:St)(b2 b3 b4 b5 b6 b7 b8:Nat)(x y a b na nb':Int):Prop :=
 en S b2 50 2 (.big x)/\en S b3 50 2 (.big y)/\en S b4 50 2 (.big 0)/\en S b5 50 2 (.big a)/\en S b6 50 2 (.big b)/\en S b7 50 2 (.big na)/\en S b8 50 2 (.big nb')
def LD(d e:Nat)(D:d<2^32)(E:e<2^32)(s:0<d∨0<e) :
  PF 268 [.big d,.big e] (.tup [.big (bz d e).1,.big (bz d e).2.1,.big (bz d e).2.2]):=by
 refine jo func268 ntmps268 results268 ?_;have one_pf:PF 81 [.int .i64 1] (.big 1):=ld dc dc
 simp -dsimp only[go_sem];refine aG.intro fun bc fc=>?_
 try simp -dsimp only[go_sem]
 refine aG.intro fun bd fd=>?_;have nd_c:=(ag fd).1
 try simp -dsimp only[go_sem]
 refine aG.intro fun be fe=>?_;have ne_d:=(ag fe).1;have ne_c:=(ag (ag fe).2).1
 try simp -dsimp only[go_sem]
 refine aG.intro fun bf ff=>?_;have nf_e:=(ag ff).1;have nf_d:=(ag (ag ff).2).1;have nf_c:=(ag (ag (ag ff).2).2).1
 try simp -dsimp only[go_sem]
 refine aG.intro fun bg fg=>?_;have ng_f:=(ag fg).1;have ng_e:=(ag (ag fg).2).1;have ng_d:=(ag (ag (ag fg).2).2).1;have ng_c:=(ag (ag (ag (ag fg).2).2).2).1
 try simp -dsimp only[go_sem]
 refine one_pf.call ?_;simp -dsimp only[go_sem,aa,nn ng_f];refine one_pf.call ?_;simp -dsimp only[go_sem];refine aG.intro fun bh fh=>?_;have nh_g:=(ag fh).1;have nh_f:=(ag (ag fh).2).1;have nh_g:=(ag (ag (ag fh).2).2).1;have nh_f:=(ag (ag (ag (ag fh).2).2).2).1;have nh_e:=(ag (ag (ag (ag (ag fh).2).2).2).2).1;have nh_d:=(ag (ag (ag (ag (ag (ag fh).2).2).2).2).2).1;have nh_c:=(ag (ag (ag (ag (ag (ag (ag fh).2).2).2).2).2).2).1;simp -dsimp only[go_sem];refine aG.intro fun bi fi=>?_;have ni_h:=(ag fi).1;have ni_g:=(ag (ag fi).2).1;have ni_f:=(ag (ag (ag fi).2).2).1;have ni_g:=(ag (ag (ag (ag fi).2).2).2).1;have ni_f:=(ag (ag (ag (ag (ag fi).2).2).2).2).1;have ni_e:=(ag (ag (ag (ag (ag (ag fi).2).2).2).2).2).1;have ni_d:=(ag (ag (ag (ag (ag (ag (ag fi).2).2).2).2).2).2).1;have ni_c:=(ag (ag (ag (ag (ag (ag (ag (ag fi).2).2).2).2).2).2).2).1;simp only[go_sem,aa,nn ni_h];refine aI (fun O S'=>∃(x y:Nat) (a b na nb':Int),OV d e x y a b na nb'/\O 2=.ptr 2 bc 0/\O 3=.ptr 2 bd 0/\O 4=.ptr 2 be 0/\O 5=.ptr 2 bf 0/\O 6=.ptr 2 bg 0/\O 7=.ptr 2 bh 0/\O 8=.ptr 2 bi 0/\BzS S' bc bd be bf bg bh bi x y a b na nb') (fun O S=>TO S (O 3)) ?_ ?_
 .simp only[go_sem];refine⟨d,e,1,0,0,1,OV.init s,?_⟩;simp only[BzS,en.at_hit,en.at_miss,Bu,i7,bR,aK,UL,aj nd_c,aj ne_c,aj ne_d,aj nf_c,aj nf_d,aj nf_e,aj ng_c,aj ng_d,aj ng_e,aj ng_f,aj nh_c,aj nh_d,aj nh_e,aj nh_f,aj nh_g,aj ni_c,aj ni_d,aj ni_e,aj ni_f,aj ni_g,aj ni_h]
 .rintro O S' ⟨x,y,a,b,na,nbb,f,F,G,H,I,J,K,L,c⟩;obtain⟨⟨M,N,P⟩,⟨Q,R,U⟩,⟨V,W,X⟩,⟨Y,Z,v5⟩,⟨g6,u6,v6⟩,⟨g7,u7,v7⟩,⟨g8,u8,v8⟩⟩:=id c;by_cases g:y=0
  .subst g;simp -dsimp only[*,go_sem,aa];refine(lp (nb.zero 1) om).call ?_;simp -dsimp only[*,go_sem,aa,show(Int.sign 0 != 0)=false from rfl];refine fQ 3 [[1,2]] kr ?_
   simp only[*,go_sem,aa,aj nf_e,aj ng_e,aj ng_f];simp only[bR,aK];rw[f.fin];exact⟨trivial,trivial,trivial,VR.tup (l:=[.big x,.big a,.big b]) (by simp[qZ])⟩
  .have hs:((y:Int).sign != 0)=true:=by simp;omega
   have lx:x<2^32/\y<2^32:=by
    have h1:=f.lx;have h2:=f.ly;omega
   have k:nb a 32:=JN f.la om;have i:nb na 32:=JN f.lna om;have m:nb b 32:=JN f.lb om;have j:nb nbb 32:=JN f.lnb om;have nq:nb ((x/y:Nat):Int) 32:=z9 (eS (iz x y) lx.1);have o:=Ik x y;simp -dsimp only[*,go_sem,aa];refine(lp (z9 lx.2) om).call ?_;simp -dsimp only[*,go_sem,aa];refine(mt (z9 lx.1) (z9 lx.2) om om (bQ ((z9 lx.1).mono om))).call ?_;rw[o.1,o.2];simp -dsimp only[*,go_sem];refine aG.intro fun bj fj=>?_;have t:bc≠bj/\bd≠bj/\be≠bj/\bf≠bj/\bg≠bj/\bh≠bj/\bi≠bj:=⟨en.fresh c.1 fj,en.fresh c.2.1 fj,en.fresh c.2.2.1 fj,en.fresh c.2.2.2.1 fj,en.fresh c.2.2.2.2.1 fj,en.fresh c.2.2.2.2.2.1 fj,en.fresh c.2.2.2.2.2.2 fj⟩;obtain⟨p,q,u,v,j5,w,j7⟩:=t;simp -dsimp only[go_sem];refine aG.intro fun bk fk=>?_;have nk_j:=(ag fk).1;have h:=(ag fk).2;have n:bc≠bk/\bd≠bk/\be≠bk/\bf≠bk/\bg≠bk/\bh≠bk/\bi≠bk:=⟨en.fresh c.1 h,en.fresh c.2.1 h,en.fresh c.2.2.1 h,en.fresh c.2.2.2.1 h,en.fresh c.2.2.2.2.1 h,en.fresh c.2.2.2.2.2.1 h,en.fresh c.2.2.2.2.2.2 h⟩;obtain⟨z,A,B,k4,k5,k6,k7⟩:=n;simp -dsimp only[go_sem,aa,nn nk_j];refine fQ 2 [[1]] kr ?_
   simp -dsimp only[*,go_sem,aa,fE,aj z,aj A];refine bD 6 kr ?_
   simp -dsimp only[*,go_sem,aa,aj nk_j,fE,aj p,aj q];refine⟨_,(qr nq i om).pure',_,(Df (k.mono (om:32<=64)) (nq.mul i) om).pure',trivial,?_⟩
   refine bD 6 kr ?_
   simp only[*,go_sem,aa,aj nh_g,aj nk_j,fE,aj p,aj q,aj v,aj w];refine⟨_,(qr nq j om).pure',_,(Df (m.mono (om:32<=64)) (nq.mul j) om).pure',trivial,?_⟩
   generalize C:(((((((((S'.upd bj _).upd bk _).upd bj _).upd bk _).upd bc _).upd bd _).upd bf _).upd bh _).upd bg _).upd bi _=T;have r:BzS T bc bd be bf bg bh bi (y:Int) ((x%y:Nat):Int) na nbb (a-((x/y:Nat):Int)*na) (b-((x/y:Nat):Int)*nbb):=by
    rw[<-C];simp only[BzS,en.at_hit,en.at_miss,Bu,i7,bR,aK,UL,kv,yQ,ne_c,ne_d,nh_g,aj nd_c,aj nf_c,aj nf_d,aj nf_e,aj ng_c,aj ng_d,aj ng_e,aj ng_f,aj nh_c,aj nh_d,aj nh_e,aj nh_f,aj ni_c,aj ni_d,aj ni_e,aj ni_f,aj ni_g,aj ni_h,u,B];exact c.2.2.1
   refine⟨⟨y,x%y,na,nbb,_,_,f.step g,r⟩,?_⟩;rw[Ga r.2.1,Ga c.2.1];have:=dh x (iF g);simp only[eg];exact this

def dE.repl(h:dE S b g n m A){j c:Nat}{v:Nat->Int}(p:jx S c m v)(f:∀i,i<n->g i≠c){q:Nat->AV}(u:S b=some ⟨59,1,n,q⟩) :
  dE (S.upd b ⟨59,1,n,bR q j (.sl 2 c 0 m)⟩) b (fun i=>if i=j then c else g i) n m (fun i r=>if i=j then v r else A i r):=by
 have o:b≠c:=bG.ne h.outer p dc
 refine⟨bG.here fun i a=>?_,fun i a=>?_,fun i k a s d=>?_⟩
 .obtain⟨x,t,w⟩:=h.outer;rw[u]at t;cases t;simp only[bR];by_cases e:i=j
  .simp[e]
  .simp only[e,aM];exact w i a
 .by_cases e:i=j
  .simp only[e,aK];exact p.upd (aj o) _
  .simp only[e,aM];exact(h.row i a).upd (aj (h.outer_ne a)) _
 .by_cases e:i=j
  .by_cases l:k=j
   .omega
   .simp only[e,l,aK,aM]at d;exact absurd d.symm (f k s)
  .by_cases l:k=j
   .simp only[e,l,aK,aM]at d;exact absurd d (f i a)
   .simp only[e,l,aM]at d;exact h.inj i k a s d
structure nR(S S':St)(b:Nat)(g g':Nat->Nat)(n:Nat):Prop where
 keep:∀k X,S k=some X->k≠b->(∀i,i<n->g i≠k)->S' k=some X
 new:∀i,i<n->(∃j,j<n/\g' i=g j)∨S (g' i)=ab
def nR.refl(S:St)(b:Nat)(g:Nat->Nat)(n:Nat):nR S S b g g n:=⟨fun _ _ h _ _=>h,fun i a=>bW ⟨i,a,rfl⟩⟩
def nR.upd(h:nR S S' b g g' n){c:Nat}(j:c=b∨(∃i,i<n/\g i=c)∨S c=ab)(X:ft):nR S (S'.upd c X) b g g' n:=by
 refine⟨fun k Y a d f=>?_,h.new⟩;have l:k≠c:=by
  rintro rfl;rcases j with e|⟨i,m,e⟩|e
  .exact d e
  .exact f i m e
  .rw[e]at a;cases a
 rw[aO l];exact h.keep k Y a d f
def nR.trans{S1 S2:St}{g1 g2:Nat->Nat}(h:nR S S1 b g g1 n)(k:nR S1 S2 b g1 g2 n)(r:S1 b≠ab):nR S S2 b g g2 n:=by
 refine⟨fun c X m o p=>k.keep c X (h.keep c X m o p) o (fun i f e=>?_),fun i f=>?_⟩
 .rcases h.new i f with⟨j,d,a⟩|a
  .exact p j d (a.symm.trans e)
  .rw[e,m]at a;cases a
 .rcases k.new i f with⟨j,d,e⟩|e
  .rw[e];exact h.new j d
  .by_cases q:∃j,j<n/\g2 i=g j
   .exact bW q
   .refine bQ ?_
    cases a:S (g2 i)with
    | none=>rfl
    | some X =>
     have s:g2 i≠b:=fun l=>r (l▸e);have:=h.keep (g2 i) X a s (fun j d l=>q ⟨j,d,l.symm⟩);rw[e]at this;cases this
def nR.var(h:nR S S' b g g' n){c ty es:Nat}{z:AV}(a:en S c ty es z)(d:c≠b)(e:∀i,i<n->g i≠c):en S' c ty es z:=by
 obtain⟨x,f,j⟩:=a;exact⟨x,h.keep c _ f d e,j⟩
def nR.ne(h:nR S S' b g g' n){c:Nat}{X:ft}(d:S c=some X)(f:∀i,i<n->g i≠c):∀i,i<n->g' i≠c:=by
 intro i k e;rcases h.new i k with⟨j,l,a⟩|a
 .exact f j l (a.symm.trans e)
 .rw[e,d]at a;cases a
def dE.some(h:dE S b g n m A):S b≠ab:=by
 obtain⟨x,a,_⟩:=h.outer;rw[a];simp
structure rV(S:St)(b:Nat)(c:Nat->Nat)(n m:Nat)(A:aH):Prop where
 outer:bG S b 59 1 n (fun i=>.sl 2 (c i) 0 m)
 row:∀i,i<n->jx S (c i) m (A i)
def dE.cols(h:dE S b g n m A):rV S b g n m A:=⟨h.outer,h.row⟩
def rV.ne(h:rV S b c n m A){i:Nat}(a:i<n):b≠c i:=bG.ne h.outer (h.row i a) dc
def rV.vr(h:rV S b c n m A):VR S (.sl 1 b 0 n) (aU n m A):=VR.sl h.outer om (fun j a=>by rw[az];exact(h.row j a).vr)
def rV.ext(h:rV S b c n m A)(a:fM S S'):rV S' b c n m A:=⟨a.has h.outer,fun i d=>a.has (h.row i d)⟩
def iW(b:Nat)(S S':St):Prop:=∀k X,S k=some X->k≠b->S' k=some X
def iW.refl(b:Nat)(S:St):iW b S S:=fun _ _ h _=>h
def iW.trans{S'':St}(h:iW b S S')(k:iW b S' S''):iW b S S'':=fun c X d a=>k c X (h c X d a) a
def iW.ext(h:fM S S'):iW b S S':=fun c X a _=>h c X a
def iW.upd(h:iW b S S'){c:Nat}(f:c=b∨S c=ab)(X:ft):iW b S (S'.upd c X):=fun k Y a d=>by
 have:k≠c:=by
  rintro rfl;rcases f with e|e
  .exact d e
  .rw[e]at a;cases a
 rw[aO this];exact h k Y a d
def iW.has(h:iW b S S'){c ty es k:Nat}{z:Nat->AV}(a:bG S c ty es k z)(d:c≠b):bG S' c ty es k z:=by
 obtain⟨x,e,f⟩:=a;exact⟨x,h c _ e d,f⟩
def iW.var(h:iW b S S'){c ty es:Nat}{z:AV}(a:en S c ty es z)(d:c≠b):en S' c ty es z:=by
 obtain⟨x,e,f⟩:=a;exact⟨x,h c _ e d,f⟩
def BA(S:St)(b:Nat)(c:Nat->Nat)(n m p q:Nat)(A:aH)(k:p<n)(l:q<n)(d:rV S b c n m A) :
  cZ 264 [.sl 1 b 0 n,.int .i64 p,.int .i64 q] S (fun _ S'=>(∃c',rV S' b c' n m (fun i=>A (dX p q i)))/\iW b S S'):=by
 refine iC func264 rfl 20 ntmps264 kr sm ?_
 rw[ml,results264];obtain⟨h,o,f⟩:=id d.outer;have r:h p=.sl 2 (c p) 0 m:=f p k;have s:h q=.sl 2 (c q) 0 m:=f q l;simp -dsimp only[go_sem];refine ie 13 kr ?_
 simp only[*,go_sem,aa];refine⟨⟨fun i=>c (dX p q i),bG.here fun i j=>?_,fun i j=>?_⟩,((iW.refl b S).upd (bW rfl) _).upd (bW rfl) _⟩
 .simp only[bR,dX];by_cases e:i=q
  .subst e;by_cases a:i=p
   .subst a;simp
   .simp[a]
  .by_cases a:i=p
   .subst a;simp[e]
   .simp[e,a,f i j]
 .have g:dX p q i<n:=by unfold dX;split<;>(try split)<;>omega
  exact((d.row _ g).upd (aj (d.ne g)) _).upd (aj (d.ne g)) _
def fH.first(h:VA S x x'):fH S (x::l) (x'::l):=⟨h,cY _ _⟩
structure Uh(S0 S:St)(b bd b9:Nat)(c:Nat->Nat)(n m j t:Nat)(A:aH)(v:Nat->Int)(d:Int):Prop where
 outer:bG S b 59 1 n (fun a=>.sl 2 (if a=j then bd else c a) 0 m)
 new:jx S bd m (fun r=>if r<t then v r/d else v r)
 row:∀a,a<n->a≠j->jx S (c a) m (A a)
 var:en S b9 50 2 (.big d)
 keep:iW b S0 S
 h1:S0 bd=ab
 h2:S0 b9=ab
 ne:b9≠bd
 nc:∀a,a<n->c a≠bd
def Uh.other{bd:Nat}(h:Uh S0 S b bd b9 c n m j t A v d){e:Nat}(f:S e=ab)(X:ft):Uh S0 (S.upd e X) b bd b9 c n m j t A v d :=
 ⟨h.outer.upd (bG.fresh h.outer f) _,h.new.upd (bG.fresh h.new f) _,fun a g i=>(h.row a g i).upd (bG.fresh (h.row a g i) f) _,h.var.upd (h.var.fresh f) _,fun k Y l o=>by
  have:k≠e:=by rintro rfl;rw[h.keep k Y l o]at f;cases f
  rw[aO this];exact h.keep k Y l o,h.h1,h.h2,h.ne,h.nc⟩
def Uh.put{bd:Nat}(h:Uh S0 S b bd b9 c n m j t A v d){g:Nat->AV}(l:S bd=some ⟨50,2,m,g⟩):Uh S0 (S.upd bd ⟨50,2,m,bR g t (.big (v t/d))⟩) b bd b9 c n m j (t+1) A v d:=by
 refine⟨h.outer.upd (bG.ne h.outer h.new dc) _,bG.here fun r o=>?_,fun a f p=>(h.row a f p).upd (h.nc a f) _,h.var.upd h.ne _,h.keep.upd (bQ h.h1) _,h.h1,h.h2,h.ne,h.nc⟩
 obtain⟨g',i,q⟩:=h.new;rw[l]at i;cases i;simp only[bR];by_cases e:r=t
 .subst e;simp
 .rw[af e,q r o];by_cases k:r<t
  .simp[k,(om:r<t+1)]
  .simp[k,(om:¬r<t+1)]
def uP(S0:St)(b:Nat)(c:Nat->Nat)(n m i j row:Nat)(A:aH)(d:Int)(w:i<n)(p:j<n)(k:row<m)(U:m<=100)(V:d≠0)(E:nb d 31)(s:∀a r,a<n->r<m->nb (A a r) 31)(L:rV S0 b c n m A) :
  cZ 265 [.sl 1 b 0 n,.int .i64 j,.int .i64 i,.int .i64 row,.big d] S0 (fun _ S'=>(∃c',rV S' b c' n m (fun a r=>if a=j then(A i row*A j r-A j row*A i r)/d else A a r))/\iW b S0 S'):=by
 refine iC func265 rfl 58 ntmps265 kr sm ?_
 rw[ml,results265];simp -dsimp only[go_sem];refine aG.intro fun u C=>?_
 try simp -dsimp only[go_sem]
 have f:rV (S0.upd u ⟨50,2,1,fun _=>.big d⟩) b c n m A:=L.ext ((fM.refl S0).upd C _);obtain⟨F,M,y⟩:=id f.outer;obtain⟨g2,W,N⟩:=id (f.row i w);obtain⟨g3,X,P⟩:=id (f.row j p);have Y:F i=.sl 2 (c i) 0 m:=y i w;have Z:F j=.sl 2 (c j) 0 m:=y j p;have x3:=N row k;have x4:=P row k;refine fQ 20 [[0,1],[],[]] kr ?_
 simp -dsimp only[*,go_sem,aa];have Q:=s i row w k;have R:=(s j row p k).neg;refine⟨_,(tA (s j row p k) om).pure',?_⟩;refine(oB n m 31 j i A (A i row) (-(A j row)) p w U s Q R om _ _ (fH.first f.vr.va)).mono ?_
 rintro _ S1 ⟨bd,rfl,G,H,z⟩;obtain⟨nd_9,fd⟩:=ag z;clear M y W N X P Y Z x3 x4;have l:=f.ext H;obtain⟨F,M,y⟩:=id l.outer;obtain⟨g5,u5,v5⟩:=id G;have I:b≠bd:=bG.ne l.outer G dc
 simp only[*,go_sem,aa,fE];generalize T:(fun r=>A i row*A j r+-A j row*A i r)=v at *;have B:∀r,r<m->nb (v r) 63:=fun r k=>by rw[<-T];exact(Q.mul (s j r p k)).add (R.mul (s i r w k))
 refine aI (fun O S'=>∃t:Nat,t<=m/\O 0=.sl 1 b 0 n/\O 1=.int .i64 j/\O 9=.ptr 2 u 0/\O 37=.sl 2 bd 0 m/\O 38=.int .i64 m/\O 39=.int .i64 t/\Uh S0 S' b bd u c n m j t A v d) (fun O S=>m-co (O 39)) ?_ ?_
 .simp only[go_sem];refine⟨0,om,rfl,bG.here fun a o=>?_,(G.congr fun r _=>by simp).upd (aj I) _,fun a o _=>(l.row a o).upd (aj (l.ne o)) _,?_,?_,fd,C,aj nd_9,fun a o=>bG.fresh (f.row a o) z⟩
  .simp only[bR];by_cases e:a=j
   .simp[e]
   .simp only[e,aM];exact y a o
  .have h9:en S1 u 50 2 (.big d):=by
    obtain⟨x,D,k2⟩:=en.new (S:=S0) (b:=u) (ty:=50) (es:=2) (g:=fun _=>AV.big d) rfl;exact⟨x,H _ _ D,k2⟩
   exact h9.upd (fun e=>by obtain⟨x,D,_⟩:=L.outer;rw[<-e,C]at D;cases D) _
  .exact(iW.ext (((fM.refl S0).upd C _).trans H)).upd (bW rfl) _
 .rintro O S' ⟨t,ht,e0,e1,e9,e37,e38,J,h⟩;by_cases q:t<m
  .obtain⟨g6,u6,v6⟩:=id h.new;have x6:g6 t=.big (v t):=(v6 t q).trans sm
   obtain⟨g7,u7,v7⟩:=id h.outer;obtain⟨g8,u8,x8⟩:=id h.var;have x7:g7 j=.sl 2 bd 0 m:=(v7 j p).trans sm
   simp -dsimp only[*,go_sem,aa];refine aG.intro fun be fe=>?_;have hbe:b≠be:=bG.fresh h.outer fe;have h9e:u≠be:=h.var.fresh fe;have K:bd≠be:=bG.fresh h.new fe;simp -dsimp only[go_sem,aa,J,x6];refine fQ 13 [[10,11]] kr ?_
   simp only[*,go_sem,aa,fE];refine⟨_,(mt (B t q) (E.mono om) om V (bQ ((B t q).mono om))).pure',?_⟩;simp only[go_sem,aS (om:t<1000000),co]
   refine⟨⟨t+1,om,rfl,?_⟩,om⟩
   rw[mD];exact(h.other fe _).put (by rw[aO K];exact u6)
  .obtain rfl:t=m:=om
   simp only[*,go_sem];refine⟨⟨fun a=>if a=j then bd else c a,h.outer,fun a o=>?_⟩,h.keep⟩
   by_cases e:a=j
   .simp only[e,aK];refine h.new.congr fun r k=>?_;simp only[k,aK,<-T];rw[show A i row*A j r-A j row*A i r=A i row*A j r+-A j row*A i r by rw[sE];omega]
   .simp only[e,aM];exact h.row a o e
def oN(S0:St)(b:Nat)(g:Nat->Nat)(n m j f:Nat)(A:aH)(M:Int)(h:j<n)(U:m<=100)(D:f<=m)(V:0<M)(o:nb M 32)(k:Nat)(E:k<=1000000)(F:∀r,r<m->nb (A j r) k)(p:dE S0 b g n m A) :
  cZ 266 [.sl 1 b 0 n,.int .i64 j,.int .i64 f,.big M] S0 (fun _ S'=>dE S' b g n m (fun i r=>if i=j/\f<=r then A i r%M else A i r)/\nR S0 S' b g g n):=by
 refine iC func266 rfl 38 ntmps266 kr sm ?_
 rw[ml,results266];simp only[go_sem];refine aG.intro fun bc fc=>?_
 try simp -dsimp only[go_sem]
 have q:b≠bc:=bG.fresh p.outer fc;have l:∀i,i<n->g i≠bc:=fun i G=>bG.fresh (p.row i G) fc;refine aI (fun O S'=>∃r:Nat,f<=r/\r<=m/\O 0=.sl 1 b 0 n/\O 1=.int .i64 j/\O 7=.ptr 2 bc 0/\O 8=.int .i64 r/\dE S' b g n m (fun i c=>if i=j/\f<=c/\c<r then A i c%M else A i c)/\en S' bc 50 2 (.big M)/\nR S0 S' b g g n) (fun O S=>m-co (O 8)) ?_ ?_
 .simp only[go_sem];exact⟨f,om,D,rfl,(p.upd q l _).congr fun i c _ _=>by rw[af om],en.new rfl,(nR.refl S0 b g n).upd (bQ (bQ fc)) _⟩
 .rintro O S' ⟨r,H,I,s,t,J,u,a,v,w⟩;obtain⟨K,x,L⟩:=id a.outer;obtain⟨N,y,P⟩:=id (a.row j h);obtain⟨W,Q,R⟩:=id v;have B:K j=.sl 2 (g j) 0 m:=L j h;by_cases d:r<m
  .have T:N r=.big (A j r):=(P r d).trans (by dsimp only;rw[af om])
   simp -dsimp only[*,go_sem,aa];refine fQ 19 [[17]] kr ?_
   simp only[go_sem,aa,s,t,J,u,x,B,h,d,y,T,Q,R,aS (om:r<1000000),co]
   refine⟨_,(qx (F r d) o E om).pure',?_⟩;simp only[go_sem];refine⟨⟨r+1,om,om,rfl,(a.set (j:=r) (z:=A j r%M) h y).congr fun i c _ _=>?_,v.upd (aj (l j h)) _,w.upd (bQ (bW ⟨j,h,rfl⟩)) _⟩,om⟩
   unfold eQ;dsimp only;by_cases e:i=j/\c=r
   .obtain⟨rfl,rfl⟩:=e;rw[ah ⟨rfl,rfl⟩,ah om]
   .rw[af e];by_cases C:i=j/\f<=c/\c<r
    .rw[ah C,ah om]
    .rw[af C,af om]
  .obtain rfl:r=m:=om
   simp only[go_sem,s,t,u,x,B,h,d];refine Bi om ?_;exact⟨a.congr fun i c _ X=>by
    by_cases e:i=j/\f<=c
    .rw[ah e,ah om]
    .rw[af e,af om],w⟩

end Go.Proofs.YtdobfmlmenaajaaGreatDoor
