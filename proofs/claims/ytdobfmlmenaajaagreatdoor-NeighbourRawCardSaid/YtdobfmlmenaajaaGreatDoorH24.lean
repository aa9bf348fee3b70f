/-
  Lemmas for NeighbourRaw.
-/
import Derived.Test.YtdobfmlmenaajaaGreatDoorH23
import Derived.Test.YtdobfmlmenaajaaGreatDoorH16
namespace Go.Proofs.YtdobfmlmenaajaaGreatDoor
open Go.RowKit Tryz
open _root_.Int renaming tmod→fo,tdiv→pG
open _root_.Option renaming none→ab
set_option maxHeartbeats 6400000
set_option maxRecDepth 4096
set_option linter.all false
attribute [local go_sem] Nat.reduceAdd Nat.reduceEqDiff Nat.reduceLeDiff Nat.reduceLT reduceCtorEq Int.ofNat_lt decide_true decide_false Int.zero_le_ofNat
attribute [local go_sem ↓] reduceIte
variable{x x' z:AV}{d:Int}{args l l':List AV}{b b9 es f i j k m n t ty:Nat}{v:Nat->Int}{c g g':Nat->Nat}{S S' S0:St}{A:aI}{X:eS}
def tE(n m:Nat)(A:aI)(g:1<=n)(h:n<=16)(j:1<=m)(k:m<=16):PF 223 [az n m A] (.bool true):=by
 refine iH func223 ntmps223 results223 ?_;have b:0<n:=om
 have a:(0:Int)<(n:Int):=om
 simp only[go_sem,aK,az,a,(om:¬((n:Int)<1)),(om:¬((16:Int)<(n:Int))),(om:¬((m:Int)<1)),(om:¬((16:Int)<(m:Int)))]
 refine aH (fun O S=>∃i:Nat,i<=n/\O 0=az n m A/\O 27=az n m A/\O 28=.int .i64 n/\O 29=.int .i64 i) (fun O S=>n-cj (O 29)) ?_ ?_
 .simp only[go_sem,aK,az];exact⟨0,om,rfl⟩
 .rintro O S ⟨i,l,o,c,d,e⟩;by_cases f:i<n
  .simp only[*,go_sem,aK,az,show((m:Int) != m)=false by simp,aP (om:i<1000000),cj]
   exact⟨⟨i+1,om,rfl⟩,om⟩
  .simp only[*,go_sem,aK,az];exact VR.mf rfl
def k9(m:Int)(a:2<=m)(b:m<=2147483647):PF 224 [.int .i64 m] (.int .i64 0):=by
 refine iH func224 ntmps224 results224 ?_;simp only[go_sem,(om:¬(m<2)),(om:¬((2147483647:Int)<m))]
 exact VR.mf rfl
def xl(n:Nat)(A:aI)(b:1<=n)(d:n<=8):PF 226 [az n n A] (.bool true):=by
 refine iH func226 ntmps226 results226 ?_;have c:0<n:=om
 have a:(0:Int)<(n:Int):=om
 simp -dsimp only[go_sem,aa];refine(tE n n A b om b om).call ?_;simp only[go_sem,aK,az,a,show((n:Int)<=8) by omega,show((n:Int)==n)=true by simp]
 exact VR.mf rfl
def Fd{x m:Int}(d:1<=m)(a:m<=2147483647):IntKind.i64.wrap (fo x m+m)=fo x m+m/\fo (fo x m+m) m=x%m:=by
 have e:fo x m<m:=UP x om;have f:-m<fo x m:=by
  have:=UP (-x) (om:0<m)
  rw[Sd]at this;omega
 have b:fo (fo x m+m) m=x%m:=by
  rw[aL om,Int.add_emod_right];have g:x=m*pG x m+fo x m:=(xV x m).symm;have c:x%m=(fo x m+m*pG x m)%m:=by rw[<-(om:x=fo x m+m*pG x m)]
  rw[c,qR]
 have h:=aW x (om:m≠0)
 have i:=aV x (om:0<m)
 exact⟨i64_in om om,b⟩
def lR(A:aI)(m:Int):aI:=fun i j=>A i j%m
def mF(n k:Nat)(A:aI)(m:Int)(L:n<=16)(M:k<=16)(E:1<=m)(p:m<=2147483647):Si 225 [az n k A,.int .i64 m] n k (lR A m):=by
 refine Si.of ?_;refine i9 func225 ntmps225 results225 ?_;have q:¬(m=0):=om
 simp -dsimp only[go_sem,aK,az]
 repeat refine an ?_
 refine aF.intro fun bc fc=>?_;simp only[go_sem];refine aH (fun O S'=>∃i:Nat,i<=n/\O 1=.int .i64 m/\O 5=.sl 1 bc 0 n/\O 13=az n k A/\O 14=.int .i64 n/\O 15=.int .i64 i/\∃g',fz 29 2 1 St.none S' bc g' n k i (fun a j=>.int .i64 (lR A m a j))) (fun O S=>n-cj (O 15)) ?_ ?_
 .simp only[go_sem,aK,az];exact⟨0,om,rfl,fun _=>0,fz.init fc (fun _ _=>rfl) _ _⟩
 .rintro O S' ⟨i,N,r,s,d,f,g,g',b⟩;by_cases l:i<n
  .obtain⟨B,o,t⟩:=id b.outer;simp -dsimp only[*,go_sem,aa,az,aK]
   repeat refine an ?_
   refine aF.intro fun bd fd=>?_;have F:bc≠bd:=bM.fresh b.outer fd;simp only[*,go_sem];have h:=b.push dc fd o (fun _=>.int .i64 0)
   generalize u:(fun a=>if a=i then bd else g' a)=gg at h
   refine aH (fun O S'=>∃j:Nat,j<=k/\O 1=.int .i64 m/\O 5=.sl 1 bc 0 n/\O 6=.int .i64 i/\O 13=az n k A/\O 14=.int .i64 n/\O 15=.int .i64 i/\O 26=aK k (A i)/\O 27=.int .i64 k/\O 28=.int .i64 j/\fz 29 2 1 St.none S' bc gg n k (i+1) (fun a c=>.int .i64 (if a=i/\j<=c then 0 else lR A m a c))) (fun O S=>k-cj (O 28)) ?_ ?_
   .simp only[*,go_sem,az,aK];refine⟨0,om,rfl,h.congr fun a c _ _=>?_⟩
    by_cases e:a=i
    .simp[e]
    .simp[e]
   .clear r s d f g b h o t u;rintro O S' ⟨j,P,r,s,G,d,f,g,v,w,y,b⟩;by_cases z:j<k
    .obtain⟨B,o,t⟩:=id b.outer;obtain⟨Q,C,R⟩:=id (b.row i om);have H:B i=.sl 1 (gg i) 0 k:=(t i l).trans (ai om);obtain⟨I,J⟩:=Fd (x:=A i j) E p;simp -dsimp only[*,go_sem,az,aK];refine bE 13 kr ?_
     simp only[go_sem,aa,az,aK,r,s,G,d,f,g,v,w,y,l,z,o,H,C,q,I,J,aP (om:j<1000000),cj]
     refine⟨⟨j+1,om,rfl,(b.put dc (om:i<i+1) C j (.int .i64 (lR A m i j))).congr fun a c _ _=>?_⟩,om⟩
     by_cases e:a=i/\c=j
     .obtain⟨rfl,rfl⟩:=e;rw[ai ⟨rfl,rfl⟩,af om]
     .rw[af e];congr 1;by_cases D:a=i/\j<=c
      .rw[ai D,ai om]
      .rw[af D,af om]
    .simp only[*,go_sem,az,aK,aP (om:i<1000000),cj]
     exact⟨⟨i+1,om,rfl,gg,b.congr fun a c _ T=>by rw[af om]⟩,om⟩
  .obtain rfl:i=n:=om
   have K:=b.imat (A:=lR A m) (fun _ _ _ _=>rfl);simp only[*,go_sem,aa,az,aK];exact⟨bc,rfl,g',K.1⟩
def Gv(f:Nat)(args:List AV)(n m:Nat)(A:Nat->Nat->Int):Prop:=∀S args',fI S args' args->cP f args' S (fun r S'=>∃b g,r=.tup [.sl 1 b 0 n,.int .i64 0]/\jd S S' b g n m A)
def Gv.of{A:Nat->Nat->Int}(h:cP f args St.none (fun r S'=>∃b g,r=.tup [.sl 1 b 0 n,.int .i64 0]/\eI S' b g n m A)):Gv f args n m A:=fun S args' c=>by
 have d:cP f args St.none (fun r S'=>∃b g,r=.tup [.sl 1 b 0 n,.int .i64 0]/\eI S' b g n m A/\Kg S'):=h.less fun r S' ⟨b,g,e,a⟩=>⟨gQ S' b g n,ji S' b g n,b,g,e,a.only.1,a.only.2⟩;refine(d.frame c ?_).mono ?_
 .rintro r S1 ⟨b,g,rfl,_,i⟩;exact⟨rfl,i⟩
 .rintro r S' ⟨S1,⟨b,g,rfl,a,_⟩,j,rfl⟩;exact⟨b,g,rfl,a.join j⟩
def xR(n k:Nat)(A:aI)(m:Int)(e:1<=n)(c:n<=16)(f:1<=k)(d:k<=16)(h:2<=m)(a:m<=2147483647):Gv 176 [az n k A,.int .i64 m] n k (lR A m):=by
 refine Gv.of ?_;refine i9 func176 ntmps176 results176 ?_;simp -dsimp only[go_sem,aa];refine(tE n k A e c f d).call ?_;simp -dsimp only[go_sem,aa];refine(k9 m h a).call ?_;simp -dsimp only[go_sem,aa];refine(mF n k A m c d om a _ _ (cS _ _)).mono ?_;rintro _ S' ⟨b,g,rfl,i⟩;simp only[go_sem];exact⟨b,rfl,g,i.1⟩
def kT(A B:aI)(K:Nat)(m:Int):aI:=fun i j=>(ay K fun t=>A i t*B t j)%m
def Hl(n K l:Nat)(A B:aI)(m:Int)(hn:n<=16)(hK:1<=K)(M:K<=16)(hl:l<=16)(hm:1<=m)(N:m<=2147483647)(P:∀i j,i<n->j<K->0<=A i j/\A i j<m)(Q:∀i j,i<K->j<l->0<=B i j/\B i j<m):Si 231 [az n K A,az K l B,.int .i64 m] n l (kT A B K m):=by
 refine Si.of ?_;refine i9 func231 ntmps231 results231 ?_;have y:¬(m=0):=om
 have R:0<K:=om
 have T:(0:Int)<(K:Int):=om
 simp -dsimp only[go_sem,aK,az]
 repeat refine an ?_
 refine aF.intro fun bc fc=>?_;simp only[go_sem];refine aH (fun O S'=>∃i:Nat,i<=n/\O 1=az K l B/\O 2=.int .i64 m/\O 7=.sl 1 bc 0 n/\O 17=az n K A/\O 18=.int .i64 n/\O 19=.int .i64 i/\∃g',fz 29 2 1 St.none S' bc g' n l i (fun a j=>.int .i64 (kT A B K m a j))) (fun O S=>n-cj (O 19)) ?_ ?_
 .simp only[go_sem,aK,az];exact⟨0,om,rfl,fun _=>0,fz.init fc (fun _ _=>rfl) _ _⟩
 .rintro O S' ⟨i,hi,u,h,v,d,f,g,g',b⟩;by_cases o:i<n
  .obtain⟨I,x,z⟩:=id b.outer;simp -dsimp only[*,go_sem,aa,az,aK]
   repeat refine an ?_
   refine aF.intro fun bd fd=>?_;have U:bc≠bd:=bM.fresh b.outer fd;simp only[*,go_sem];have p:=b.push dc fd x (fun _=>.int .i64 0)
   generalize C:(fun a=>if a=i then bd else g' a)=gg at p
   refine aH (fun O S'=>∃k:Nat,k<=K/\O 1=az K l B/\O 2=.int .i64 m/\O 7=.sl 1 bc 0 n/\O 8=.int .i64 i/\O 17=az n K A/\O 18=.int .i64 n/\O 19=.int .i64 i/\O 32=aK K (A i)/\O 33=.int .i64 K/\O 34=.int .i64 k/\fz 29 2 1 St.none S' bc gg n l (i+1) (fun a c=>.int .i64 (if a=i then kT A B k m i c else kT A B K m a c))) (fun O S=>K-cj (O 34)) ?_ ?_
   .simp only[*,go_sem,az,aK];refine⟨0,om,rfl,p.congr fun a c _ _=>?_⟩
    by_cases e:a=i
    .simp[e,kT,ay]
    .simp[e]
   .clear u h v d f g b p x z C;rintro O S' ⟨k,hk,u,h,v,D,d,f,g,q,r,s,b⟩;by_cases w:k<K
    .simp only[*,go_sem,az,aK];refine aH (fun O S'=>∃j:Nat,j<=l/\O 1=az K l B/\O 2=.int .i64 m/\O 7=.sl 1 bc 0 n/\O 8=.int .i64 i/\O 11=.int .i64 (A i k)/\O 17=az n K A/\O 18=.int .i64 n/\O 19=.int .i64 i/\O 32=aK K (A i)/\O 33=.int .i64 K/\O 34=.int .i64 k/\O 42=aK l (B k)/\O 43=.int .i64 l/\O 44=.int .i64 j/\fz 29 2 1 St.none S' bc gg n l (i+1) (fun a c=>.int .i64 (if a=i then(if c<j then kT A B (k+1) m i c else kT A B k m i c)else kT A B K m a c))) (fun O S=>l-cj (O 44)) ?_ ?_
     .simp only[*,go_sem,az,aK];exact⟨0,om,rfl,b.congr fun a c _ _=>by simp⟩
     .clear u h v D d f g q r s b;rintro O S' ⟨j,hj,u,h,v,D,E,d,f,g,q,r,s,F,G,H,b⟩;by_cases t:j<l
      .obtain⟨I,x,z⟩:=id b.outer;obtain⟨V,J,W⟩:=id (b.row i om);have X:I i=.sl 1 (gg i) 0 l:=(z i o).trans (ai om);have Y:V j=.int .i64 (kT A B k m i j):=(W j t).trans sm
       have b1:=P i k o w;have b2:=Q k j w t;have b3:0<=kT A B k m i j/\kT A B k m i j<m:=⟨aW _ om,aV _ om⟩;have b4:=ow (A:=2147483646) (B:=2147483646) (om:0<=A i k/\A i k<=2147483646) (om:0<=B k j/\B k j<=2147483646)
       have Z:IntKind.i64.wrap (A i k*B k j)=A i k*B k j:=i64_in om om;have q2:IntKind.i64.wrap (kT A B k m i j+A i k*B k j)=kT A B k m i j+A i k*B k j:=i64_in om om;have q3:fo (kT A B k m i j+A i k*B k j) m=kT A B (k+1) m i j:=by
        rw[aL om];simp only[kT,ay];rw[Int.emod_add_emod]
       simp -dsimp only[*,go_sem,az,aK];refine bE 19 kr ?_
       simp only[go_sem,aa,az,aK,u,h,v,D,E,d,f,g,q,r,s,F,G,H,o,t,x,X,J,Y,y,Z,q2,q3,aP (om:j<1000000),cj]
       refine⟨⟨j+1,om,rfl,(b.put dc (om:i<i+1) J j (.int .i64 (kT A B (k+1) m i j))).congr fun a c _ _=>?_⟩,om⟩
       by_cases e:a=i/\c=j
       .obtain⟨rfl,rfl⟩:=e;simp
       .rw[af e];congr 1;by_cases h:a=i
        .rw[ai h,ai h];by_cases L:c<j
         .rw[ai L,ai om]
         .rw[af L,af om]
        .rw[af h,af h]
      .simp only[*,go_sem,az,aK,aP (om:k<1000000),cj]
       exact⟨⟨k+1,om,rfl,b.congr fun a c _ hc=>by rw[ai (om:c<j)]⟩,om⟩
    .obtain rfl:k=K:=om
     simp only[*,go_sem,az,aK,aP (om:i<1000000),cj]
     exact⟨⟨i+1,om,rfl,gg,b.congr fun a c _ hc=>by by_cases e:a=i<;>simp[e]⟩,om⟩
  .obtain rfl:i=n:=om
   have hN:=b.imat (A:=kT A B K m) (fun _ _ _ _=>rfl);simp only[*,go_sem,aa,az,aK];exact⟨bc,rfl,g',hN.1⟩

def VA.ptr(e:ed S b ty es x)(f:VA S x x'):VA S (.ptr es b 0) (.pat es x'):=by
 intro w v a c;obtain⟨g',g,h⟩:=e;obtain⟨cs,d,m,i,n⟩:=a b _ g;simp only[bs]at c ⊢;subst c;obtain⟨u,j,k⟩:=i 0 (by simp only;omega)
 refine⟨b,es*0,u,rfl,gA d,fun l=>l,⟨cs,ty,(0,0),d,j⟩,f w u a ?_⟩;rw[<-h];exact k
def VA.fn(h:fI S l l'):VA S (.fn f l) (.fn f l'):=by
 intro w v b a;simp only[bs]at a ⊢;obtain⟨vs,rfl,c⟩:=a;exact⟨vs,rfl,yO b _ _ _ h c⟩
def lh(n m:Nat)(A:aI)(g:1<=n)(h:n<=16)(j:1<=m)(k:m<=16):PF 97 [aR n m A] (.tup [.int .i64 n,.int .i64 m,.bool true]):=by
 refine iH func97 ntmps97 results97 ?_;have b:0<n:=om
 have a:(0:Int)<(n:Int):=om
 simp only[go_sem,bB,aR,a,(om:¬((n:Int)<1)),(om:¬((16:Int)<(n:Int))),(om:¬((m:Int)<1)),(om:¬((16:Int)<(m:Int)))]
 refine aH (fun O S=>∃i:Nat,i<=n/\O 0=aR n m A/\O 5=.int .i64 m/\O 26=aR n m A/\O 27=.int .i64 n/\O 28=.int .i64 i) (fun O S=>n-cj (O 28)) ?_ ?_
 .simp only[go_sem,bB,aR];exact⟨0,om,rfl⟩
 .rintro O S ⟨i,l,o,p,c,d,e⟩;by_cases f:i<n
  .simp only[*,go_sem,bB,aR,show((m:Int) != m)=false by simp,aP (om:i<1000000),cj]
   exact⟨⟨i+1,om,rfl⟩,om⟩
  .simp only[*,go_sem,bB,aR];exact VR.tup (by simp[pI])
def Fl(n m:Nat)(A:aI)(g:1<=n)(h:n<=16)(j:1<=m)(k:m<=16):PF 154 [az n m A] (.tup [.int .i64 n,.int .i64 m,.bool true]):=by
 refine iH func154 ntmps154 results154 ?_;have b:0<n:=om
 have a:(0:Int)<(n:Int):=om
 simp only[go_sem,aK,az,a,(om:¬((n:Int)<1)),(om:¬((16:Int)<(n:Int))),(om:¬((m:Int)<1)),(om:¬((16:Int)<(m:Int)))]
 refine aH (fun O S=>∃i:Nat,i<=n/\O 0=az n m A/\O 5=.int .i64 m/\O 26=az n m A/\O 27=.int .i64 n/\O 28=.int .i64 i) (fun O S=>n-cj (O 28)) ?_ ?_
 .simp only[go_sem,aK,az];exact⟨0,om,rfl⟩
 .rintro O S ⟨i,l,o,p,c,d,e⟩;by_cases f:i<n
  .simp only[*,go_sem,aK,az,show((m:Int) != m)=false by simp,aP (om:i<1000000),cj]
   exact⟨⟨i+1,om,rfl⟩,om⟩
  .simp only[*,go_sem,aK,az];exact VR.tup (by simp[pI])
def ro(n m F:Nat)(l:List AV)(A:aI)(G:11<=F/\F<252)(H:n<=16)(I:m<=16)(z:∀i j:Nat,i<n->j<m->PF F ([.int .i64 i,.int .i64 j]++l) (.big (A i j))):MF 131 [.int .i64 n,.int .i64 m,.fn F l] n m A:=by
 refine MF.of ?_;refine i9 func131 ntmps131 results131 ?_;simp -dsimp only[go_sem]
 repeat refine an ?_
 refine aF.intro fun bc fc=>?_;simp only[go_sem];refine aH (fun O S'=>∃i:Nat,i<=n/\O 1=.int .i64 m/\O 2=.fn F l/\O 7=.sl 1 bc 0 n/\O 13=.int .i64 n/\O 14=.int .i64 i/\∃g',fz 59 50 2 St.none S' bc g' n m i (fun a j=>.big (A a j))) (fun O S=>n-cj (O 14)) ?_ ?_
 .simp only[go_sem];exact⟨0,om,rfl,fun _=>0,fz.init fc (fun _ _=>rfl) _ _⟩
 .rintro O S' ⟨i,J,q,k,r,d,f,g',b⟩;by_cases g:i<n
  .obtain⟨s,p,t⟩:=id b.outer;simp -dsimp only[*,go_sem,aa]
   repeat refine an ?_
   refine aF.intro fun bd fd=>?_;have B:bc≠bd:=bM.fresh b.outer fd;have x:bW s i (.sl 2 bd 0 m) i=.sl 2 bd 0 m:=by simp[bW]
   simp only[*,go_sem];have h:=b.push dc fd p (fun _=>.big 0)
   generalize u:(fun a=>if a=i then bd else g' a)=gg at h
   refine aH (fun O S'=>∃j:Nat,j<=m/\O 1=.int .i64 m/\O 2=.fn F l/\O 7=.sl 1 bc 0 n/\O 8=.int .i64 i/\O 13=.int .i64 n/\O 14=.int .i64 i/\O 26=.int .i64 m/\O 27=.int .i64 j/\fz 59 50 2 St.none S' bc gg n m (i+1) (fun a c=>.big (if a=i/\j<=c then 0 else A a c))) (fun O S=>m-cj (O 27)) ?_ ?_
   .simp only[*,go_sem];refine⟨0,om,rfl,h.congr fun a c _ _=>?_⟩
    by_cases e:a=i
    .simp[e]
    .simp[e]
   .clear q k r d f b h p t u;rintro O S' ⟨j,K,q,k,r,C,d,f,v,w,b⟩;by_cases o:j<m
    .obtain⟨s,p,t⟩:=id b.outer;obtain⟨L,y,M⟩:=id (b.row i om);have D:s i=.sl 2 (gg i) 0 m:=(t i g).trans (ai om);simp -dsimp only[*,go_sem];refine bE 10 kr ?_
     simp only[go_sem,aa,q,k,r,C,d,f,v,w,g,o,p,D,y,aP (om:j<1000000),cj]
     repeat refine an ?_
     refine⟨_,(z i j g o).pure',trivial,⟨j+1,om,rfl,(b.put dc (om:i<i+1) y j (.big (A i j))).congr fun a c _ _=>?_⟩,om⟩
     by_cases e:a=i/\c=j
     .obtain⟨rfl,rfl⟩:=e;rw[ai ⟨rfl,rfl⟩,af om]
     .rw[af e];congr 1;by_cases k:a=i/\j<=c
      .rw[ai k,ai om]
      .rw[af k,af om]
    .simp only[*,go_sem,aP (om:i<1000000),cj]
     exact⟨⟨i+1,om,rfl,gg,b.congr fun a c _ N=>by rw[af om]⟩,om⟩
  .obtain rfl:i=n:=om
   have E:=b.mat (A:=A) (fun _ _ _ _=>rfl);simp only[*,go_sem,aa];exact⟨bc,rfl,g',E.1⟩
def Et(n m:Nat)(A:aI)(i j:Nat)(b:i<n)(c:j<m)(a:-9223372036854775808<=A i j/\A i j<=9223372036854775807):PF 155 [.int .i64 i,.int .i64 j,.pat 1 (az n m A)] (.big (A i j)):=by
 refine iH func155 ntmps155 results155 ?_;simp -dsimp only[go_sem];refine aF.intro fun bc fc=>?_
 try simp -dsimp only[*,go_sem,az,aK]
 refine(kQ a.1 a.2).call ?_;simp only[go_sem,aa];exact VR.mf rfl
def PH(n m k:Nat)(A:aI)(i j:Nat)(b:i<n)(c:j<m)(a:nb (A i j) k)(d:k<=1000000000):PF 212 [.int .i64 i,.int .i64 j,.pat 1 (aR n m A)] (.big (-A i j)):=by
 refine iH func212 ntmps212 results212 ?_;simp -dsimp only[go_sem];refine aF.intro fun bc fc=>?_
 try simp -dsimp only[*,go_sem,aR,bB]
 refine(sW a om).call ?_;simp only[go_sem,aa];exact VR.mf rfl
def Hf(k:Nat)(z:Int)(i j:Nat)(a:nb z k)(b:k<=1000000000):PF 238 [.int .i64 i,.int .i64 j,.pat 2 (.big z)] (.big (if i=j then z else 0)):=by
 refine iH func238 ntmps238 results238 ?_;simp -dsimp only[go_sem];refine aF.intro fun bc fc=>?_;by_cases e:i=j
 .subst e
  try simp -dsimp only[go_sem,show((i:Int)==i)=true by simp]
  refine(rS a om).call ?_;simp only[go_sem,aa];exact VR.mf rfl
 .try simp only[go_sem,e,show((i:Int)==j)=false by simp;omega]
  exact VR.mf rfl
def fI.fn1{a b:AV}(h:fI S l l'):fI S [a,b,.fn f l] [a,b,.fn f l']:=⟨VA.refl _ _,VA.refl _ _,VA.fn h,trivial⟩
def fI.one(h:VA S x x'):fI S [x] [x']:=⟨h,trivial⟩
def fI.three{y y' z':AV}(h:VA S x x')(a:VA S y y')(b:VA S z z'):fI S [x,y,z] [x',y',z']:=⟨h,a,b,trivial⟩
def eZ{g:Nat->AV}:bW g i x i=x:=by simp[bW]
def oY(n m:Nat)(A:aI)(f:1<=n)(a:n<=16)(h:1<=m)(c:m<=16)(k:∀i j,i<n->j<m->-9223372036854775808<=A i j/\A i j<=9223372036854775807):EK 93 [az n m A] n m A:=by
 refine EK.of ?_;refine i9 func93 ntmps93 results93 ?_;simp -dsimp only[go_sem,aa,az,aK];refine aF.intro fun bc fc=>?_
 try simp -dsimp only[go_sem]
 refine(Fl n m A f a h c).call ?_;simp -dsimp only[go_sem,aa];refine(ro n m 155 [.pat 1 (az n m A)] A om a c (fun i j d e=>Et n m A i j d e (k i j d e)) _ _ (fI.fn1 (fI.one (VA.ptr (ed.new rfl) (VA.refl _ _))))).mono ?_;rintro _ S1 ⟨b,g,rfl,l⟩;simp only[go_sem];exact⟨b,rfl,g,l.1⟩
def KH(n k:Nat)(z:Int)(a:n<=16)(c:nb z k)(d:k<=1000000000):MF 190 [.int .i64 n,.big z] n n (fun i j=>if i=j then z else 0):=by
 refine MF.of ?_;refine i9 func190 ntmps190 results190 ?_;simp -dsimp only[go_sem,aa];refine aF.intro fun bc fc=>?_
 try simp -dsimp only[go_sem]
 refine(ro n n 238 [.pat 2 (.big z)] (fun i j=>if i=j then z else 0) om a a (fun i j f h=>Hf k z i j c d) _ _ (fI.fn1 (fI.one (VA.ptr (ed.new rfl) (VA.refl _ _))))).mono ?_
 rintro _ S1 ⟨b,g,rfl,e⟩;simp only[go_sem];exact⟨b,rfl,g,e.1⟩
theorem pW{f:Nat->Int}{k:Nat}:∀(t:Nat),(∀i,i<t->nb (f i) k)->nb (ay t f) (k+t)
 | 0,_=>nb.zero _
 | t+1,h=>by
  have a:=pW t (fun i c=>h i om);have b:=(h t om).mono (om:k<=k+t)
  exact a.add b
def Rb(n K l k:Nat)(A B:aI)(i j:Nat)(d:i<n)(e:j<l)(s:K<=16)(g:∀i j,i<n->j<K->nb (A i j) k)(h:∀i j,i<K->j<l->nb (B i j) k)(u:k<=1000000):PF 132 [.int .i64 i,.int .i64 j,.pat 1 (.int .i64 K),.pat 1 (aR n K A),.pat 1 (aR K l B)] (.big (mm K A B i j)):=by
 refine iH func132 ntmps132 results132 ?_;simp -dsimp only[go_sem];refine aF.intro fun bc fc=>?_
 try simp -dsimp only[go_sem]
 refine aF.intro fun bd fd=>?_;have nd_c:=(ag fd).1
 try simp only[go_sem]
 refine aH (fun O S'=>∃t:Nat,t<=K/\O 0=.int .i64 i/\O 1=.int .i64 j/\O 3=.pat 1 (aR n K A)/\O 4=.pat 1 (aR K l B)/\O 7=.ptr 2 bc 0/\O 8=.ptr 2 bd 0/\O 11=.int .i64 K/\O 12=.int .i64 t/\ed S' bc 50 2 (.big 0)/\ed S' bd 50 2 (.big (ay t fun a=>A i a*B a j))) (fun O S=>K-cj (O 12)) ?_ ?_
 .simp only[go_sem];exact⟨0,om,rfl,((ed.new rfl).upd (aj nd_c) _).upd (aj nd_c) _,ed.set⟩
 .rintro O S' ⟨t,v,w,x,y,z,C,D,o,p,c,m⟩;obtain⟨E,F,G⟩:=id c;obtain⟨H,I,J⟩:=id m;by_cases b:t<K
  .simp -dsimp only[*,go_sem,aa];refine bE 17 kr ?_
   simp only[*,go_sem,aa,aR,bB,aP (om:t<1000000),cj]
   have q:=pW (f:=fun a=>A i a*B a j) (k:=k+k) t (fun a L=>(g i a d om).mul (h a j om e));have r:=((g i t d b).mul (h t j b e)).mono (om:k+k<=k+k+t)
   exact⟨_,(p9 (g i t d b) (h t j b e) om).pure',_,(wC q r om).pure',trivial,⟨t+1,om,rfl,c.upd (aj nd_c) _,ed.set⟩,om⟩
  .obtain rfl:t=K:=om
   simp only[*,go_sem,aa];simp only[bW,aQ];exact VR.mf rfl
def Hx(n m k:Nat)(A:aI)(p:1<=n)(f:n<=16)(h:m<=16)(l:∀i j,i<n->j<m->nb (A i j) k)(q:k<=1000000):MF 163 [aR n m A] n m (fun i j=>- A i j):=by
 refine MF.of ?_;refine i9 func163 ntmps163 results163 ?_;have c:0<n:=om
 have a:(0:Int)<(n:Int):=om
 simp -dsimp only[go_sem,aR,bB];refine aF.intro fun bc fc=>?_
 try simp -dsimp only[go_sem,aR,bB,c,a]
 refine bE 7 kr ?_
 simp -dsimp only[go_sem,aa,a];refine(ro n m 212 [.pat 1 (aR n m A)] (fun i j=>- A i j) om f h (fun i j d e=>PH n m k A i j d e (l i j d e) om) _ _ (fI.fn1 (fI.one (VA.ptr (ed.new rfl) (VA.refl _ _))))).mono ?_;rintro _ S1 ⟨b,g,rfl,o⟩;simp only[go_sem];exact⟨b,rfl,g,o.1⟩
def uU(n K l k:Nat)(A B:aI)(m:1<=n)(e:n<=16)(f:1<=K)(d:K<=16)(o:1<=l)(h:l<=16)(p:∀i j,i<n->j<K->nb (A i j) k)(q:∀i j,i<K->j<l->nb (B i j) k)(r:k<=1000000):EK 80 [aR n K A,aR K l B] n l (mm K A B):=by
 refine EK.of ?_;refine i9 func80 ntmps80 results80 ?_;simp -dsimp only[go_sem,aa,aR,bB];refine aF.intro fun bc fc=>?_
 try simp -dsimp only[go_sem,aR,bB]
 refine aF.intro fun bd fd=>?_;have nd_c:=(ag fd).1
 try simp -dsimp only[go_sem,aj nd_c]
 refine(lh n K A m e f d).call ?_;simp -dsimp only[go_sem,aa];refine aF.intro fun be fe=>?_;have ne_d:=(ag fe).1;have ne_c:=(ag (ag fe).2).1
 try simp -dsimp only[go_sem,aj ne_d]
 refine(lh K l B f d o h).call ?_;simp -dsimp only[go_sem,aa,show((K:Int) != K)=false by simp,eZ]
 have s:bc≠bd:=aj nd_c;have a:bc≠be:=aj ne_c;have c:bd≠be:=aj ne_d;refine(ro n l 132 [.pat 1 (.int .i64 K),.pat 1 (aR n K A),.pat 1 (aR K l B)] (mm K A B) om e h (fun i j t u=>Rb n K l k A B i j t u d p q r) _ _ (fI.fn1 (fI.three (VA.ptr ed.set (VA.refl _ _)) (VA.ptr ((((ed.new rfl).upd s _).upd a _).upd a _) (VA.refl _ _)) (VA.ptr (((ed.new rfl).upd c _).upd c _) (VA.refl _ _))))).mono ?_;rintro _ S1 ⟨b,g,rfl,v⟩;simp only[go_sem];exact⟨b,rfl,g,v.1⟩

def LF(f:Nat)(args:List AV)(n:Nat)(v:Nat->Int):Prop:=∀S args',fI S args' args->cP f args' S (fun r S'=>∃b,r=.sl 2 b 0 n/\jp S' b n v/\ft S S'/\S b=ab)
def zT(S:St)(b:Nat):St:=fun k=>if k=b then S k else ab
def M7(S:St)(b:Nat):∀c X,zT S b c=some X->S c=some X:=by
 intro c X h;unfold zT at h;split at h
 .exact h
 .cases h
def jp.only(h:jp S b n v):jp (zT S b) b n v/\Kg (zT S b):=by
 obtain⟨g',d,f⟩:=h;refine⟨⟨g',by simp[zT,d],f⟩,fun c X a j g=>?_⟩
 unfold zT at a;split at a
 .rename_i e;subst e;rw[a]at d;cases d;show Av (g' j)=true;rw[f j g];rfl
 .cases a
def LF.of(h:cP f args St.none (fun r S'=>∃b,r=.sl 2 b 0 n/\jp S' b n v)):LF f args n v:=fun S args' d=>by
 have g:cP f args St.none (fun r S'=>∃b,r=.sl 2 b 0 n/\jp S' b n v/\Kg S'):=h.less fun r S' ⟨b,e,a⟩=>⟨zT S' b,M7 S' b,b,e,a.only.1,a.only.2⟩;refine(g.frame d ?_).mono ?_
 .rintro r S1 ⟨b,rfl,_,i⟩;exact⟨rfl,i⟩
 .rintro r S' ⟨S1,⟨b,rfl,a,_⟩,c,rfl⟩;exact⟨b,rfl,(bM.join c a).1,pq S S1,(bM.join c a).2⟩
def nZ(n m k i j:Nat)(A:aI)(a b:Int)(o:i<n)(p:j<n)(D:m<=100)(h:∀c r,c<n->r<m->nb (A c r) k)(q:nb a k)(s:nb b k)(E:k<=1000000) :
  LF 269 [aR n m A,.int .i64 i,.big a,.int .i64 j,.big b] m (fun r=>a*A i r+b*A j r):=by
 refine LF.of ?_;refine i9 func269 ntmps269 results269 ?_;simp -dsimp only[go_sem,aR,bB];refine aF.intro fun bc fc=>?_
 try simp -dsimp only[go_sem,aR,bB]
 refine aF.intro fun bd fd=>?_;have nd_c:=(ag fd).1;simp -dsimp only[go_sem,o]
 repeat refine an ?_
 refine aF.intro fun be fe=>?_;have ne_d:=(ag fe).1;have ne_c:=(ag (ag fe).2).1;simp only[go_sem];refine aH (fun O S'=>∃t:Nat,t<=m/\O 0=aR n m A/\O 1=.int .i64 i/\O 3=.int .i64 j/\O 7=.ptr 2 bc 0/\O 9=.ptr 2 bd 0/\O 11=.sl 2 be 0 m/\O 20=.int .i64 m/\O 21=.int .i64 t/\ed S' bc 50 2 (.big a)/\ed S' bd 50 2 (.big b)/\jp S' be m (fun r=>if r<t then a*A i r+b*A j r else 0)) (fun O S=>m-cj (O 21)) ?_ ?_
 .simp only[go_sem,aR,bB];exact⟨0,om,rfl,((ed.new rfl).upd (aj nd_c) _).upd (aj ne_c) _,(ed.new rfl).upd (aj ne_d) _,bM.here fun r l=>by simp⟩
 .rintro O S' ⟨t,F,G,H,I,J,K,w,x,y,f,g,u⟩;obtain⟨L,M,N⟩:=id f;obtain⟨P,Q,R⟩:=id g;obtain⟨T,U,z⟩:=id u;by_cases d:t<m
  .simp -dsimp only[*,go_sem];refine bE 22 kr ?_
   simp only[*,go_sem,aa,aR,bB,aP (om:t<1000000),cj]
   have B:=q.mul (h i t o d);have C:=s.mul (h j t p d);exact⟨_,(p9 q (h i t o d) om).pure',_,(p9 s (h j t p d) om).pure',_,(wC B C om).pure',trivial,⟨t+1,om,rfl,f.upd (aj ne_c) _,g.upd (aj ne_d) _,bM.here fun r l=>by
    simp only[bW];by_cases e:r=t
    .subst e;simp
    .rw[af e,z r l];by_cases v:r<t
     .simp[v,(om:r<t+1)]
     .simp[v,(om:¬r<t+1)]⟩,om⟩
  .obtain rfl:t=m:=om
   simp only[*,go_sem];exact⟨be,rfl,u.congr fun r l=>by simp[l]⟩
def uA(n m:Nat)(A:aI)(F:1<=n)(G:n<=16)(H:m<=16):MF 258 [aR n m A] m n (fun j i=>A i j):=by
 refine MF.of ?_;refine i9 func258 ntmps258 results258 ?_;have z:0<n:=om
 have l:(0:Int)<(n:Int):=om
 simp -dsimp only[go_sem,aR,bB,l]
 repeat refine an ?_
 refine aF.intro fun bc fc=>?_;simp only[go_sem];refine aH (fun O S'=>∃j:Nat,j<=m/\O 0=aR n m A/\O 3=.sl 1 bc 0 m/\O 13=.int .i64 m/\O 14=.int .i64 j/\∃g',fz 59 50 2 St.none S' bc g' m n j (fun a i=>.big (A i a))) (fun O S=>m-cj (O 14)) ?_ ?_
 .simp only[go_sem,aR,bB];exact⟨0,om,rfl,fun _=>0,fz.init fc (fun _ _=>rfl) _ _⟩
 .rintro O S' ⟨j,I,o,p,d,f,g',b⟩;by_cases h:j<m
  .obtain⟨w,k,q⟩:=id b.outer;simp -dsimp only[*,go_sem,aa,aR,bB]
   repeat refine an ?_
   refine aF.intro fun bd fd=>?_;have B:bc≠bd:=bM.fresh b.outer fd;simp only[*,go_sem];have g:=b.push dc fd k (fun _=>.big 0)
   generalize r:(fun a=>if a=j then bd else g' a)=gg at g
   refine aH (fun O S'=>∃i:Nat,i<=n/\O 0=aR n m A/\O 3=.sl 1 bc 0 m/\O 4=.int .i64 j/\O 13=.int .i64 m/\O 14=.int .i64 j/\O 23=aR n m A/\O 24=.int .i64 n/\O 25=.int .i64 i/\fz 59 50 2 St.none S' bc gg m n (j+1) (fun a c=>.big (if a=j/\i<=c then 0 else A c a))) (fun O S=>n-cj (O 25)) ?_ ?_
   .simp only[*,go_sem,aR,bB];refine⟨0,om,rfl,g.congr fun a c _ _=>?_⟩
    by_cases e:a=j
    .simp[e]
    .simp[e]
   .clear o p d f b g k q r;rintro O S' ⟨i,J,o,p,C,d,f,s,t,u,b⟩;by_cases v:i<n
    .obtain⟨w,k,q⟩:=id b.outer;obtain⟨K,x,L⟩:=id (b.row j om);have D:w j=.sl 2 (gg j) 0 n:=(q j h).trans (ai om);simp -dsimp only[*,go_sem,aR,bB];refine bE 10 kr ?_
     simp only[go_sem,aa,o,p,C,d,f,s,t,u,h,v,k,D,x,aR,bB,aP (om:i<1000000),cj]
     refine⟨⟨i+1,om,rfl,(b.put dc (om:j<j+1) x i (.big (A i j))).congr fun a c _ _=>?_⟩,om⟩
     by_cases e:a=j/\c=i
     .obtain⟨rfl,rfl⟩:=e;rw[ai ⟨rfl,rfl⟩,af om]
     .rw[af e];congr 1;by_cases y:a=j/\i<=c
      .rw[ai y,ai om]
      .rw[af y,af om]
    .simp only[*,go_sem,aa,aP (om:j<1000000),cj]
     exact⟨⟨j+1,om,rfl,rfl,gg,b.congr fun a c _ M=>by rw[af om]⟩,om⟩
  .obtain rfl:j=m:=om
   have E:=b.mat (A:=fun j i=>A i j) (fun _ _ _ _=>rfl);simp only[*,go_sem,aa];exact⟨bc,rfl,g',E.1⟩

def JH{z:Int}{B:Nat}(h:z.natAbs<=B)(a:B<2^k):nb z k:=ee h a
def Dy{z:Nat}(h:z<2^k):nb (z:Int) k:=by unfold nb;simpa using h
def ed.at_hit{g:Nat->AV}:ed (S.upd b ⟨ty,es,1,g⟩) b ty es z=(g 0=z) :=
 propext ⟨fun⟨g',a,c⟩=>by rw[cn]at a;cases a;exact c,fun h=>⟨g,cn,h⟩⟩
def ed.at_miss{c:Nat}(h:b≠c):ed (S.upd c X) b ty es z=ed S b ty es z:=by
 unfold ed;rw[aO h]
def In(x y:Nat):(x:Int)/(y:Int)=((x/y:Nat):Int)/\(x:Int)%(y:Int)=((x%y:Nat):Int):=⟨sm,sm⟩
def Tq:St->AV->Nat
 | S,.ptr _ b _=>(match S b with
  | some X=>(match X.g 0 with
   | .big z=>z.toNat
   | _=>0)
  | _=>0)
 | _,_=>0
def Gb{z:Int}(h:ed S b 50 2 (.big z)):Tq S (.ptr 2 b 0)=z.toNat:=by
 obtain⟨g,a,c⟩:=h;simp only[Tq,a,c]
def BzS(S:St)(b2 b3 b4 b5 b6 b7 b8:Nat)(x y a b na nb':Int):Prop :=
 ed S b2 50 2 (.big x)/\ed S b3 50 2 (.big y)/\ed S b4 50 2 (.big 0)/\ed S b5 50 2 (.big a)/\ed S b6 50 2 (.big b)/\ed S b7 50 2 (.big na)/\ed S b8 50 2 (.big nb')
def Lr(d e k:Nat)(L:1<=k)(M:k<=1000000)(hx:d<2^k)(hy:e<2^k)(N:0<d∨0<e) :
  PF 268 [.big d,.big e] (.tup [.big (bz d e).1,.big (bz d e).2.1,.big (bz d e).2.2]):=by
 refine iH func268 ntmps268 results268 ?_;have h2k:1<2^k:=Nat.one_lt_two_pow om;have one_pf:PF 81 [.int .i64 1] (.big 1):=kQ dc dc
 simp -dsimp only[go_sem];refine aF.intro fun bc fc=>?_
 try simp -dsimp only[go_sem]
 refine aF.intro fun bd fd=>?_;have nd_c:=(ag fd).1
 try simp -dsimp only[go_sem]
 refine aF.intro fun be fe=>?_;have ne_d:=(ag fe).1;have ne_c:=(ag (ag fe).2).1
 try simp -dsimp only[go_sem]
 refine aF.intro fun bf ff=>?_;have nf_e:=(ag ff).1;have nf_d:=(ag (ag ff).2).1;have nf_c:=(ag (ag (ag ff).2).2).1
 try simp -dsimp only[go_sem]
 refine aF.intro fun bg fg=>?_;have ng_f:=(ag fg).1;have ng_e:=(ag (ag fg).2).1;have ng_d:=(ag (ag (ag fg).2).2).1;have ng_c:=(ag (ag (ag (ag fg).2).2).2).1
 try simp -dsimp only[go_sem]
 refine one_pf.call ?_;simp -dsimp only[go_sem,aa,nn ng_f];refine one_pf.call ?_;simp -dsimp only[go_sem];refine aF.intro fun bh fh=>?_;have nh_g:=(ag fh).1;have nh_f:=(ag (ag fh).2).1;have nh_g:=(ag (ag (ag fh).2).2).1;have nh_f:=(ag (ag (ag (ag fh).2).2).2).1;have nh_e:=(ag (ag (ag (ag (ag fh).2).2).2).2).1;have nh_d:=(ag (ag (ag (ag (ag (ag fh).2).2).2).2).2).1;have nh_c:=(ag (ag (ag (ag (ag (ag (ag fh).2).2).2).2).2).2).1;simp -dsimp only[go_sem];refine aF.intro fun bi fi=>?_;have ni_h:=(ag fi).1;have ni_g:=(ag (ag fi).2).1;have ni_f:=(ag (ag (ag fi).2).2).1;have ni_g:=(ag (ag (ag (ag fi).2).2).2).1;have ni_f:=(ag (ag (ag (ag (ag fi).2).2).2).2).1;have ni_e:=(ag (ag (ag (ag (ag (ag fi).2).2).2).2).2).1;have ni_d:=(ag (ag (ag (ag (ag (ag (ag fi).2).2).2).2).2).2).1;have ni_c:=(ag (ag (ag (ag (ag (ag (ag (ag fi).2).2).2).2).2).2).2).1;simp -dsimp only[go_sem,aa,nn ni_h];refine aH (fun O S'=>∃(x y:Nat) (a b na nb':Int),L2 d e x y a b na nb'/\O 2=.ptr 2 bc 0/\O 3=.ptr 2 bd 0/\O 4=.ptr 2 be 0/\O 5=.ptr 2 bf 0/\O 6=.ptr 2 bg 0/\O 7=.ptr 2 bh 0/\O 8=.ptr 2 bi 0/\BzS S' bc bd be bf bg bh bi x y a b na nb') (fun O S=>Tq S (O 3)) ?_ ?_
 .simp -dsimp only[go_sem];refine⟨d,e,1,0,0,1,L2.init N,?_⟩;simp only[BzS,ed.at_hit,ed.at_miss,EG,iV,bW,aQ,Ut,aj nd_c,aj ne_c,aj ne_d,aj nf_c,aj nf_d,aj nf_e,aj ng_c,aj ng_d,aj ng_e,aj ng_f,aj nh_c,aj nh_d,aj nh_e,aj nh_f,aj nh_g,aj ni_c,aj ni_d,aj ni_e,aj ni_f,aj ni_g,aj ni_h]
 .rintro O S' ⟨x,y,a,b,na,nbb,f,m,i,A,s,B,C,P,c⟩;obtain⟨⟨g2,r,n⟩,⟨g3,o,j⟩,⟨g4,Q,v4⟩,⟨g5,D,E⟩,⟨g6,F,G⟩,⟨g7,R,U⟩,⟨g8,u8,V⟩⟩:=id c;by_cases g:y=0
  .subst g;simp -dsimp only[go_sem,aa,i,o,j];refine(kY (nb.zero 1) om).call ?_;simp -dsimp only[go_sem,aa,m,i,r,n,o,j,show(Int.sign 0 != 0)=false from rfl];refine fH 3 [[1,2]] kr ?_
   simp -dsimp only[go_sem,aa,m,A,s,B,r,n,Q,D,E,F,G,nn nf_e,nn ng_e,nn ng_f];simp only[bW,aQ];rw[f.fin];exact⟨trivial,trivial,trivial,VR.tup (l:=[.big x,.big a,.big b]) (by simp[pI])⟩
  .have W:((y:Int).sign != 0)=true:=by simp;omega
   have lx:x<2^k/\y<2^k:=by
    have h1:=f.lx;have h2:=f.ly;omega
   have t:nb a k:=JH f.la om;have p:nb na k:=JH f.lna om;have u:nb b k:=JH f.lb om;have q:nb nbb k:=JH f.lnb om;have nq:nb ((x/y:Nat):Int) k:=Dy (ee (gK x y) lx.1);have H:=In x y;simp -dsimp only[go_sem,aa,i,o,j];refine(kY (Dy lx.2) om).call ?_;simp -dsimp only[go_sem,aa,m,i,r,n,o,j,W];refine(jl (Dy lx.1) (Dy lx.2) om om).call ?_;rw[H.1,H.2];simp -dsimp only[go_sem,n,j];refine aF.intro fun bj fj=>?_;have X:bc≠bj/\bd≠bj/\be≠bj/\bf≠bj/\bg≠bj/\bh≠bj/\bi≠bj:=⟨ed.fresh c.1 fj,ed.fresh c.2.1 fj,ed.fresh c.2.2.1 fj,ed.fresh c.2.2.2.1 fj,ed.fresh c.2.2.2.2.1 fj,ed.fresh c.2.2.2.2.2.1 fj,ed.fresh c.2.2.2.2.2.2 fj⟩;obtain⟨v,w,Y,I,Z,J,j7⟩:=X;simp -dsimp only[go_sem];refine aF.intro fun bk fk=>?_;have nk_j:=(ag fk).1;have h:=(ag fk).2;have z:bc≠bk/\bd≠bk/\be≠bk/\bf≠bk/\bg≠bk/\bh≠bk/\bi≠bk:=⟨ed.fresh c.1 h,ed.fresh c.2.1 h,ed.fresh c.2.2.1 h,ed.fresh c.2.2.2.1 h,ed.fresh c.2.2.2.2.1 h,ed.fresh c.2.2.2.2.2.1 h,ed.fresh c.2.2.2.2.2.2 h⟩;obtain⟨k1,k2,k3,k4,k5,k6,k7⟩:=z;simp -dsimp only[go_sem,aa,nn nk_j];refine fH 2 [[1]] kr ?_
   simp -dsimp only[go_sem,aa,m,i,r,n,o,j,nd_c,v,w,nn k1,nn k2,eZ];refine bE 6 kr ?_
   simp -dsimp only[go_sem,aa,s,C,D,E,R,U,nf_c,nf_d,nh_c,nh_d,nh_f,I,J,k4,k6,aj nk_j,eZ,aj v,aj w];refine⟨_,(p9 nq p om).pure',_,(Dg (t.mono (om:k<=k+k)) (nq.mul p) om).pure',trivial,?_⟩
   refine bE 6 kr ?_
   simp -dsimp only[go_sem,aa,m,i,A,s,B,C,P,F,G,u8,V,ng_c,ng_d,ng_f,ni_c,ni_d,ni_f,ni_g,ni_h,aj nh_g,Z,j7,k5,k7,aj nk_j,eZ,aj v,aj w,aj I,aj J];refine⟨_,(p9 nq q om).pure',_,(Dg (u.mono (om:k<=k+k)) (nq.mul q) om).pure',trivial,?_⟩
   generalize hT:(((((((((S'.upd bj _).upd bk _).upd bj _).upd bk _).upd bc _).upd bd _).upd bf _).upd bh _).upd bg _).upd bi _=T;have K:BzS T bc bd be bf bg bh bi (y:Int) ((x%y:Nat):Int) na nbb (a-((x/y:Nat):Int)*na) (b-((x/y:Nat):Int)*nbb):=by
    rw[<-hT];simp only[BzS,ed.at_hit,ed.at_miss,EG,iV,bW,aQ,Ut,kc,yN,ne_c,ne_d,nh_g,aj nd_c,aj nf_c,aj nf_d,aj nf_e,aj ng_c,aj ng_d,aj ng_e,aj ng_f,aj nh_c,aj nh_d,aj nh_e,aj nh_f,aj ni_c,aj ni_d,aj ni_e,aj ni_f,aj ni_g,aj ni_h,Y,k3];exact c.2.2.1
   refine⟨⟨y,x%y,na,nbb,_,_,f.step g,K⟩,?_⟩;rw[Gb K.2.1,Gb c.2.1];have:=dj x (gO g);simp only[cC];exact this

def dH.repl(h:dH S b g n m A){j c:Nat}{v:Nat->Int}(p:jp S c m v)(f:∀i,i<n->g i≠c){q:Nat->AV}(u:S b=some ⟨59,1,n,q⟩) :
  dH (S.upd b ⟨59,1,n,bW q j (.sl 2 c 0 m)⟩) b (fun i=>if i=j then c else g i) n m (fun i r=>if i=j then v r else A i r):=by
 have o:b≠c:=bM.ne h.outer p dc
 refine⟨bM.here fun i a=>?_,fun i a=>?_,fun i k a s d=>?_⟩
 .obtain⟨x,t,w⟩:=h.outer;rw[u]at t;cases t;simp only[bW];by_cases e:i=j
  .simp[e]
  .simp only[e,aS];exact w i a
 .by_cases e:i=j
  .simp only[e,aQ];exact p.upd (aj o) _
  .simp only[e,aS];exact(h.row i a).upd (aj (h.outer_ne a)) _
 .by_cases e:i=j
  .by_cases l:k=j
   .omega
   .simp only[e,l,aQ,aS]at d;exact absurd d.symm (f k s)
  .by_cases l:k=j
   .simp only[e,l,aQ,aS]at d;exact absurd d (f i a)
   .simp only[e,l,aS]at d;exact h.inj i k a s d
structure ny(S S':St)(b:Nat)(g g':Nat->Nat)(n:Nat):Prop where
 keep:∀k X,S k=some X->k≠b->(∀i,i<n->g i≠k)->S' k=some X
 new:∀i,i<n->(∃j,j<n/\g' i=g j)∨S (g' i)=ab
def ny.refl(S:St)(b:Nat)(g:Nat->Nat)(n:Nat):ny S S b g g n:=⟨fun _ _ h _ _=>h,fun i a=>bF ⟨i,a,rfl⟩⟩
def ny.upd(h:ny S S' b g g' n){c:Nat}(j:c=b∨(∃i,i<n/\g i=c)∨S c=ab)(X:eS):ny S (S'.upd c X) b g g' n:=by
 refine⟨fun k Y a d f=>?_,h.new⟩;have l:k≠c:=by
  rintro rfl;rcases j with e|⟨i,m,e⟩|e
  .exact d e
  .exact f i m e
  .rw[e]at a;cases a
 rw[aO l];exact h.keep k Y a d f
def ny.trans{S1 S2:St}{g1 g2:Nat->Nat}(h:ny S S1 b g g1 n)(k:ny S1 S2 b g1 g2 n)(r:S1 b≠ab):ny S S2 b g g2 n:=by
 refine⟨fun c X m o p=>k.keep c X (h.keep c X m o p) o (fun i f e=>?_),fun i f=>?_⟩
 .rcases h.new i f with⟨j,d,a⟩|a
  .exact p j d (a.symm.trans e)
  .rw[e,m]at a;cases a
 .rcases k.new i f with⟨j,d,e⟩|e
  .rw[e];exact h.new j d
  .by_cases q:∃j,j<n/\g2 i=g j
   .exact bF q
   .refine bH ?_
    cases a:S (g2 i)with
    | none=>rfl
    | some X =>
     have s:g2 i≠b:=fun l=>r (l▸e);have:=h.keep (g2 i) X a s (fun j d l=>q ⟨j,d,l.symm⟩);rw[e]at this;cases this
def ny.var(h:ny S S' b g g' n){c ty es:Nat}{z:AV}(a:ed S c ty es z)(d:c≠b)(e:∀i,i<n->g i≠c):ed S' c ty es z:=by
 obtain⟨x,f,j⟩:=a;exact⟨x,h.keep c _ f d e,j⟩
def ny.ne(h:ny S S' b g g' n){c:Nat}{X:eS}(d:S c=some X)(f:∀i,i<n->g i≠c):∀i,i<n->g' i≠c:=by
 intro i k e;rcases h.new i k with⟨j,l,a⟩|a
 .exact f j l (a.symm.trans e)
 .rw[e,d]at a;cases a
def dH.some(h:dH S b g n m A):S b≠ab:=by
 obtain⟨x,a,_⟩:=h.outer;rw[a];simp
structure rJ(S:St)(b:Nat)(c:Nat->Nat)(n m:Nat)(A:aI):Prop where
 outer:bM S b 59 1 n (fun i=>.sl 2 (c i) 0 m)
 row:∀i,i<n->jp S (c i) m (A i)
def dH.cols(h:dH S b g n m A):rJ S b g n m A:=⟨h.outer,h.row⟩
def rJ.ne(h:rJ S b c n m A){i:Nat}(a:i<n):b≠c i:=bM.ne h.outer (h.row i a) dc
def rJ.vr(h:rJ S b c n m A):VR S (.sl 1 b 0 n) (aR n m A):=VR.sl h.outer om (fun j a=>by rw[aD];exact(h.row j a).vr)
def rJ.ext(h:rJ S b c n m A)(a:ft S S'):rJ S' b c n m A:=⟨a.has h.outer,fun i d=>a.has (h.row i d)⟩
def iS(b:Nat)(S S':St):Prop:=∀k X,S k=some X->k≠b->S' k=some X
def iS.refl(b:Nat)(S:St):iS b S S:=fun _ _ h _=>h
def iS.trans{S'':St}(h:iS b S S')(k:iS b S' S''):iS b S S'':=fun c X d a=>k c X (h c X d a) a
def iS.ext(h:ft S S'):iS b S S':=fun c X a _=>h c X a
def iS.upd(h:iS b S S'){c:Nat}(f:c=b∨S c=ab)(X:eS):iS b S (S'.upd c X):=fun k Y a d=>by
 have:k≠c:=by
  rintro rfl;rcases f with e|e
  .exact d e
  .rw[e]at a;cases a
 rw[aO this];exact h k Y a d
def iS.has(h:iS b S S'){c ty es k:Nat}{z:Nat->AV}(a:bM S c ty es k z)(d:c≠b):bM S' c ty es k z:=by
 obtain⟨x,e,f⟩:=a;exact⟨x,h c _ e d,f⟩
def iS.var(h:iS b S S'){c ty es:Nat}{z:AV}(a:ed S c ty es z)(d:c≠b):ed S' c ty es z:=by
 obtain⟨x,e,f⟩:=a;exact⟨x,h c _ e d,f⟩
def Bw(S:St)(b:Nat)(c:Nat->Nat)(n m p q:Nat)(A:aI)(h:p<n)(j:q<n)(d:rJ S b c n m A) :
  cP 264 [.sl 1 b 0 n,.int .i64 p,.int .i64 q] S (fun _ S'=>(∃c',rJ S' b c' n m (fun i=>A (dO p q i)))/\iS b S S'):=by
 refine iw func264 rfl 20 ntmps264 kr sm ?_
 rw[lA,results264];obtain⟨k,o,f⟩:=id d.outer;have r:k p=.sl 2 (c p) 0 m:=f p h;have s:k q=.sl 2 (c q) 0 m:=f q j;simp -dsimp only[go_sem];refine g9 13 kr ?_
 simp -dsimp only[go_sem,aa,o,r,s,h,j];refine⟨⟨fun i=>c (dO p q i),bM.here fun i l=>?_,fun i l=>?_⟩,((iS.refl b S).upd (bF rfl) _).upd (bF rfl) _⟩
 .simp only[bW,dO];by_cases e:i=q
  .subst e;by_cases a:i=p
   .subst a;simp
   .simp[a]
  .by_cases a:i=p
   .subst a;simp[e]
   .simp[e,a,f i l]
 .have g:dO p q i<n:=by unfold dO;split<;>(try split)<;>omega
  exact((d.row _ g).upd (aj (d.ne g)) _).upd (aj (d.ne g)) _
def fI.first(h:VA S x x'):fI S (x::l) (x'::l):=⟨h,cS _ _⟩
structure TV(S0 S:St)(b bd b9:Nat)(c:Nat->Nat)(n m j t:Nat)(A:aI)(v:Nat->Int)(d:Int):Prop where
 outer:bM S b 59 1 n (fun a=>.sl 2 (if a=j then bd else c a) 0 m)
 new:jp S bd m (fun r=>if r<t then v r/d else v r)
 row:∀a,a<n->a≠j->jp S (c a) m (A a)
 var:ed S b9 50 2 (.big d)
 keep:iS b S0 S
 h1:S0 bd=ab
 h2:S0 b9=ab
 ne:b9≠bd
 nc:∀a,a<n->c a≠bd
def TV.other{bd:Nat}(h:TV S0 S b bd b9 c n m j t A v d){e:Nat}(f:S e=ab)(X:eS):TV S0 (S.upd e X) b bd b9 c n m j t A v d :=
 ⟨h.outer.upd (bM.fresh h.outer f) _,h.new.upd (bM.fresh h.new f) _,fun a g i=>(h.row a g i).upd (bM.fresh (h.row a g i) f) _,h.var.upd (h.var.fresh f) _,fun k Y l o=>by
  have:k≠e:=by rintro rfl;rw[h.keep k Y l o]at f;cases f
  rw[aO this];exact h.keep k Y l o,h.h1,h.h2,h.ne,h.nc⟩
def TV.put{bd:Nat}(h:TV S0 S b bd b9 c n m j t A v d){g:Nat->AV}(l:S bd=some ⟨50,2,m,g⟩):TV S0 (S.upd bd ⟨50,2,m,bW g t (.big (v t/d))⟩) b bd b9 c n m j (t+1) A v d:=by
 refine⟨h.outer.upd (bM.ne h.outer h.new dc) _,bM.here fun r o=>?_,fun a f p=>(h.row a f p).upd (h.nc a f) _,h.var.upd h.ne _,h.keep.upd (bH h.h1) _,h.h1,h.h2,h.ne,h.nc⟩
 obtain⟨g',i,q⟩:=h.new;rw[l]at i;cases i;simp only[bW];by_cases e:r=t
 .subst e;simp
 .rw[af e,q r o];by_cases k:r<t
  .simp[k,(om:r<t+1)]
  .simp[k,(om:¬r<t+1)]
def uh(S0:St)(b:Nat)(c:Nat->Nat)(n m i j row:Nat)(A:aI)(d:Int)(y:i<n)(o:j<n)(h:row<m)(hm:m<=100)(hd:d≠0)(I:nb d KB)(z:∀a r,a<n->r<m->nb (A a r) KB)(R:rJ S0 b c n m A) :
  cP 265 [.sl 1 b 0 n,.int .i64 j,.int .i64 i,.int .i64 row,.big d] S0 (fun _ S'=>(∃c',rJ S' b c' n m (fun a r=>if a=j then(A i row*A j r-A j row*A i r)/d else A a r))/\iS b S0 S'):=by
 have hKB:=mY;refine iw func265 rfl 58 ntmps265 kr sm ?_
 rw[lA,results265];simp -dsimp only[go_sem];refine aF.intro fun B F=>?_
 try simp -dsimp only[go_sem]
 have f:rJ (S0.upd B ⟨50,2,1,fun _=>.big d⟩) b c n m A:=R.ext ((ft.refl S0).upd F _);obtain⟨J,G,C⟩:=id f.outer;obtain⟨g2,T,U⟩:=id (f.row i y);obtain⟨g3,V,W⟩:=id (f.row j o);have X:J i=.sl 2 (c i) 0 m:=C i y;have Y:J j=.sl 2 (c j) 0 m:=C j o;have Z:=U row h;have x4:=W row h;refine fH 20 [[0,1],[],[]] kr ?_
 simp -dsimp only[go_sem,aa,G,X,Y,y,o,h,T,Z,V,x4];have n1:=z i row y h;have n2:=(z j row o h).neg;refine⟨_,(sW (z j row o h) om).pure',?_⟩;refine(nZ n m KB j i A (A i row) (-(A j row)) o y hm z n1 n2 om _ _ (fI.first f.vr.va)).mono ?_
 rintro _ S1 ⟨bd,rfl,K,L,D⟩;obtain⟨nd_9,fd⟩:=ag D;clear G C T U V W X Y Z x4;have p:=f.ext L;obtain⟨J,G,C⟩:=id p.outer;obtain⟨g5,u5,v5⟩:=id K;have M:b≠bd:=bM.ne p.outer K dc
 simp -dsimp only[go_sem,aa,G,o,eZ];generalize hv:(fun r=>A i row*A j r+-A j row*A i r)=v at *;have N:∀r,r<m->nb (v r) (KB+KB+1):=fun r h=>by rw[<-hv];exact(n1.mul (z j r o h)).add (n2.mul (z i r y h))
 refine aH (fun O S'=>∃t:Nat,t<=m/\O 0=.sl 1 b 0 n/\O 1=.int .i64 j/\O 9=.ptr 2 B 0/\O 37=.sl 2 bd 0 m/\O 38=.int .i64 m/\O 39=.int .i64 t/\TV S0 S' b bd B c n m j t A v d) (fun O S=>m-cj (O 39)) ?_ ?_
 .simp -dsimp only[go_sem];refine⟨0,om,rfl,bM.here fun a s=>?_,(K.congr fun r _=>by simp).upd (aj M) _,fun a s _=>(p.row a s).upd (aj (p.ne s)) _,?_,?_,fd,F,aj nd_9,fun a s=>bM.fresh (f.row a s) D⟩
  .simp only[bW];by_cases e:a=j
   .simp[e]
   .simp only[e,aS];exact C a s
  .have h9:ed S1 B 50 2 (.big d):=by
    obtain⟨x,H,k2⟩:=ed.new (S:=S0) (b:=B) (ty:=50) (es:=2) (g:=fun _=>AV.big d) rfl;exact⟨x,L _ _ H,k2⟩
   exact h9.upd (fun e=>by obtain⟨x,H,_⟩:=R.outer;rw[<-e,F]at H;cases H) _
  .exact(iS.ext (((ft.refl S0).upd F _).trans L)).upd (bF rfl) _
 .rintro O S' ⟨t,ht,e0,e1,e9,u,w,q,k⟩;by_cases l:t<m
  .obtain⟨g6,P,v6⟩:=id k.new;have x6:g6 t=.big (v t):=(v6 t l).trans sm
   obtain⟨g7,u7,v7⟩:=id k.outer;obtain⟨g8,u8,x8⟩:=id k.var;have x7:g7 j=.sl 2 bd 0 m:=(v7 j o).trans sm
   simp -dsimp only[go_sem,aa,u,w,q,l,P];refine aF.intro fun be fe=>?_;have Q:b≠be:=bM.fresh k.outer fe;have h9e:B≠be:=k.var.fresh fe;have E:bd≠be:=bM.fresh k.new fe;simp -dsimp only[go_sem,aa,q,x6];refine fH 13 [[10,11]] kr ?_
   simp -dsimp only[go_sem,aa,e0,e1,e9,u,w,q,l,P,u7,x7,u8,x8,o,Q,h9e,E,eZ];refine⟨_,(jl (N t l) (I.mono om) om hd).pure',?_⟩;simp -dsimp only[go_sem,aP (om:t<1000000),cj]
   refine⟨⟨t+1,om,rfl,?_⟩,om⟩
   rw[mh];exact(k.other fe _).put (by rw[aO E];exact P)
  .obtain rfl:t=m:=om
   simp -dsimp only[go_sem,u,w,q,l];refine⟨⟨fun a=>if a=j then bd else c a,k.outer,fun a s=>?_⟩,k.keep⟩
   by_cases e:a=j
   .simp only[e,aQ];refine k.new.congr fun r h=>?_;simp only[h,aQ,<-hv];rw[show A i row*A j r-A j row*A i r=A i row*A j r+-A j row*A i r by rw[sd];omega]
   .simp only[e,aS];exact k.row a s e
def oo(S0:St)(b:Nat)(g:Nat->Nat)(n m j f:Nat)(A:aI)(M:Int)(h:j<n)(T:m<=100)(D:f<=m)(U:0<M)(k:Nat)(o:nb M k)(V:k<=1000000)(E:∀r,r<m->nb (A j r) k)(p:dH S0 b g n m A) :
  cP 266 [.sl 1 b 0 n,.int .i64 j,.int .i64 f,.big M] S0 (fun _ S'=>dH S' b g n m (fun i r=>if i=j/\f<=r then A i r%M else A i r)/\ny S0 S' b g g n):=by
 refine iw func266 rfl 38 ntmps266 kr sm ?_
 rw[lA,results266];simp -dsimp only[go_sem];refine aF.intro fun bc fc=>?_
 try simp -dsimp only[go_sem]
 have q:b≠bc:=bM.fresh p.outer fc;have l:∀i,i<n->g i≠bc:=fun i F=>bM.fresh (p.row i F) fc;refine aH (fun O S'=>∃r:Nat,f<=r/\r<=m/\O 0=.sl 1 b 0 n/\O 1=.int .i64 j/\O 7=.ptr 2 bc 0/\O 8=.int .i64 r/\dH S' b g n m (fun i c=>if i=j/\f<=c/\c<r then A i c%M else A i c)/\ed S' bc 50 2 (.big M)/\ny S0 S' b g g n) (fun O S=>m-cj (O 8)) ?_ ?_
 .simp -dsimp only[go_sem];exact⟨f,om,D,rfl,(p.upd q l _).congr fun i c _ _=>by rw[af om],ed.new rfl,(ny.refl S0 b g n).upd (bH (bH fc)) _⟩
 .rintro O S' ⟨r,G,H,s,t,I,u,d,x,y⟩;obtain⟨J,v,K⟩:=id d.outer;obtain⟨L,B,N⟩:=id (d.row j h);obtain⟨W,P,Q⟩:=id x;have w:J j=.sl 2 (g j) 0 m:=K j h;by_cases a:r<m
  .have R:L r=.big (A j r):=(N r a).trans (by dsimp only;rw[af om])
   simp -dsimp only[go_sem,aa,s,t,u,v,w,h,a];refine fH 19 [[17]] kr ?_
   simp -dsimp only[go_sem,aa,s,t,I,u,v,w,h,a,B,R,P,Q,aP (om:r<1000000),cj]
   refine⟨_,(jl (E r a) o om om).pure',?_⟩;simp -dsimp only[go_sem];refine⟨⟨r+1,om,om,rfl,(d.set (j:=r) (z:=A j r%M) h B).congr fun i c _ _=>?_,x.upd (aj (l j h)) _,y.upd (bH (bF ⟨j,h,rfl⟩)) _⟩,om⟩
   unfold fu;dsimp only;by_cases e:i=j/\c=r
   .obtain⟨rfl,rfl⟩:=e;rw[ai ⟨rfl,rfl⟩,ai om]
   .rw[af e];by_cases C:i=j/\f<=c/\c<r
    .rw[ai C,ai om]
    .rw[af C,af om]
  .obtain rfl:r=m:=om
   simp -dsimp only[go_sem,s,t,u,v,w,h,a];refine Bf om ?_;exact⟨d.congr fun i c _ X=>by
    by_cases e:i=j/\f<=c
    .rw[ai e,ai om]
    .rw[af e,af om],y⟩

end Go.Proofs.YtdobfmlmenaajaaGreatDoor
