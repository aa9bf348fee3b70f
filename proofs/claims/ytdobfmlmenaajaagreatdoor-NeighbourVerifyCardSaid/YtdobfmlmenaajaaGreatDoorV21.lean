/-
  Lemmas for NeighbourVerify.
-/
import Derived.Test.YtdobfmlmenaajaaGreatDoorV20
namespace Go.Proofs.YtdobfmlmenaajaaGreatDoor
open Go.RowKit Tryz
open _root_.Classical renaming choose→dM
open _root_.Option renaming none→ab
set_option maxHeartbeats 6400000
set_option maxRecDepth 4096
set_option linter.all false
attribute [local go_sem] Nat.reduceAdd Nat.reduceEqDiff Nat.reduceLeDiff Nat.reduceLT reduceCtorEq Int.ofNat_lt decide_true decide_false Int.zero_le_ofNat
attribute [local go_sem ↓] reduceIte
variable{x:AV}{K:AV->St->Prop}{Q:AX->Tm->St->Prop}{a q:Int}{b bh bp bu c j k m n p r:Nat}{g gh gu v w:Nat->Nat}{V:Nat->Nat->Nat}{S:St}{O:Tm}{G:Type}{A H U:aH}
def o7(p:Nat)(v:Nat->Nat):Nat->Nat
 | 0=>0
 | k+1=>o7 p v k*p+v k
def C6(h:∀i,i<k->v i<p):o7 p v k<p^k:=by
 induction k with
 | zero=>simp[o7]
 | succ k ih =>
  have a:=ih (fun i c=>h i om);have d:=h k om;simp only[o7];have b:(o7 p v k+1)*p<=p^k*p:=aV a (ae _);rw[dV,kQ]at b;rw[cf];omega
def zu(h:∀i,i<k->v i=w i):o7 p v k=o7 p w k:=by
 induction k with
 | zero=>rfl
 | succ k ih=>simp only[o7];rw[ih (fun i a=>h i om),h k om]
theorem vW{p:Nat}{v w:Nat->Nat}{i:Nat}(a:∀k,k<i->w k=v k)(b:w i=v i+1):∀n,(∀k,i<k->k<i+1+n->w k=0/\v k<p)->o7 p v (i+1+n)<o7 p w (i+1+n)
 | 0,_=>by
  simp only[o7];rw[zu (p:=p) a,b];omega
 | n+1,h=>by
  have ih:=vW a b n (fun k c d=>h k c om);have e:=h (i+1+n) om om;rw[<-lk];simp only[o7,e.1,cN];have f:(o7 p v (i+1+n)+1)*p<=o7 p w (i+1+n)*p:=aV ih (ae _);rw[dV,kQ]at f;omega
structure ll(n p:Nat)(H:aH)(v:Nat->Nat):Prop where
 lt:∀i,i<n->v i<p
 lead:iq (fun i=>v i) n=1
 norm:fB n H (fun i=>v i) n%p=0
structure GG(S0 S:St)(n p:Nat)(H:aH)(j:Nat)(x:AV)(c:Nat)(g:Nat->Nat)(V:Nat->Nat->Nat)(w:Nat->Nat):Prop where
 list:c8 29 1 S0 S x j (fun i=>.sl 1 (g i) 0 n)
 rows:∀i,i<j->bG S (g i) 2 1 n (fun k=>.int .i64 (V i k))/\S0 (g i)=ab/\g i≠c
 good:∀i,i<j->ll n p H (V i)
 now:bG S c 2 1 n (fun k=>.int .i64 (w k))
 new:S0 c=ab
def GG.set{S0:St}(h:GG S0 S n p H j x c g V w){g':Nat->AV}(l:S c=some ⟨2,1,n,g'⟩){i z:Nat} :
  GG S0 (S.upd c ⟨2,1,n,bR g' i (.int .i64 z)⟩) n p H j x c g V (fun k=>if k=i then z else w k):=by
 refine⟨h.list.upd h.new (fun d o e=>h.list.other l om (e▸o)) _,fun a q=>?_,h.good,?_,h.new⟩
 .obtain⟨b,f,m⟩:=h.rows a q;exact⟨b.upd m _,f,m⟩
 .refine bG.here fun k r=>?_;obtain⟨s,b,f⟩:=h.now;rw[l]at b;cases b;simp only[bR];split
  .rfl
  .exact f k r
def digI(n p k:Nat)(v w:Nat->Nat):Prop:=k<=n/\(∀i,i<n->v i<p)/\(∀i,i<k->w i=v i)/\∀i,k<=i->i<n->w i=0
def allH(n p j:Nat)(v:Nat->Nat):Prop:=(∀i,i<n->v i<p)/\j<=o7 p v n
noncomputable def Tk(n p:Nat)(S:St)(x:AV):Nat:=match x with
 | .sl _ c _ _=>(match S c with
  | some X=>p^n-o7 p (fun i=>co (X.g i)) n
  | ab=>0)
 | _=>0
def yF(h:bG S c 2 1 n (fun k=>.int .i64 (w k))):Tk n p S (.sl 1 c 0 n)=p^n-o7 p w n:=by
 obtain⟨g,a,b⟩:=h;simp only[Tk,a];rw[zu (w:=w) fun i d=>by rw[b i d];simp[co]]
def AllR(S0 S:St)(n p:Nat)(H:aH)(r:AV):Prop:=∃j c g V w,j<=65536/\GG S0 S n p H j r c g V w
def Lq(x:AV):Nat:=match x with
 | .int _ z=>(z+1).toNat
 | _=>0
def CK(h:bG S c 2 1 n (fun k=>.int .i64 (w k)))(d:0<n)(p:n<=1000)
  (e:∀b h',S b=ab->(∀k,k<n->h' k=.int .i64 (w k))->K (.sl 1 b 0 n) (S.upd b ⟨2,1,n,h'⟩)):gP 29 29 .nil (.sl 1 c 0 n) S K:=by
 obtain⟨g,f,a⟩:=h;have i:Bj S (.sl 1 c 0 n)=some (1,n,fun j=>g (0+j),some c):=by simp[Bj,f]
 unfold gP;rw[show dY 29=some 2 from rfl,i];refine⟨rfl,rfl,rfl,d,fun j l=>?_,om,fun b m=>e b _ m fun k o=>?_⟩
 .show eO 1 (g (0+j));rw[az,a j l];simp[eO]
 .show g (0+k)=_;rw[az,a k o]
def OY(S0:St)(n p:Nat)(H:aH)(h1:1<=n)(h2:n<=8)(hp:2<=p)(hp2:p<=900)(hpn:p^n<=65536) :
  cZ 92 [aC n n H,.int .i64 p] S0 (fun r S'=>AllR S0 S' n p H r):=by
 refine jI func92 ntmps92 results92 ?_;simp -dsimp only[go_sem,aC]
 repeat refine an ?_
 refine aG.intro fun W P=>?_;simp only[go_sem];refine aI (fun O S=>∃j x c g V w,GG S0 S n p H j x c g V w/\allH n p j w/\O 0=aC n n H/\O 1=.int .i64 p/\O 5=x/\O 6=.sl 1 c 0 n) (fun O S=>Tk n p S (O 6)) ?_ ?_
 .simp only[go_sem,aC];refine⟨0,_,W,fun _=>0,fun _ _=>0,fun _=>0,⟨c8.nil ((fM.refl S0).upd P _) _,fun i m=>om,fun i m=>om,bG.here fun i m=>rfl,P⟩,⟨fun i m=>by show 0<p;omega,om⟩,rfl,rfl⟩
 .rintro O S ⟨j,x,c,g,V,w,s,⟨t,hj⟩,K,L,M,N⟩;have hvl:=C6 (p:=p) t;simp -dsimp only[*,go_sem,aa,aC];have hI:ku S c n (fun k=>w k):=s.now;refine(sN n p H (fun k=>w k) h2 om om (fun i m=>by have:=t i m;omega)).spec (fH.same (fH.same (fH.i64s hI fH.nil))) ?_
  rcases jq (ll n p H w)with Q|Q
  .have o:(iq (fun k=>(w k:Int)) n==1&&fB n H (fun k=>(w k:Int)) n%(p:Int)==0)=true:=by simp only[Q.lead,Q.norm];rfl
   simp -dsimp only[*,go_sem,aC];refine CK s.now om om ?_;intro d h' R hh;simp -dsimp only[*,go_sem];refine aG.intro fun b18 u=>?_;have n18d:=(ag u).1;have X:c≠d:=s.now.fresh R;simp -dsimp only[*,go_sem];have y:=(s.list.upd (s.list.1.none R) (s.list.fresh R) ⟨2,1,n,h'⟩);have E:=y.fresh u;refine c8.app29 (y.upd (y.1.none u) E _) om (show eO 1 (.sl 1 d 0 n) by simp[eO]) (bQ ⟨_,_,_,rfl,cp,rfl,fun h=>E _ h rfl⟩) ?_
   intro c' S' Y Z hk3;have F:GG S0 S' n p H (j+1) (.sl 1 c' 0 (j+1)) c (fun i=>if i=j then d else g i) (fun i=>if i=j then w else V i) w:=by
    have G:=y.upd (y.1.none u) E ⟨29,1,1,fun j=>[AV.sl 1 d 0 n].getD j AV.any⟩;have keep1:∀{b:Nat} {gg:Nat->AV},bG (S.upd d ⟨2,1,n,h'⟩) b 2 1 n gg->bG S' b 2 1 n gg:=fun {b gg} o=>by
     obtain⟨gb,U,q2⟩:=o.upd (o.fresh u) ⟨29,1,1,fun j=>[AV.sl 1 d 0 n].getD j AV.any⟩;exact⟨gb,Z b _ U (G.other U om),q2⟩
    have keep:∀{b:Nat} {gg:Nat->AV},bG S b 2 1 n gg->bG S' b 2 1 n gg:=fun {b gg} o=>keep1 (o.upd (o.fresh R) _);refine⟨Y.congr fun i m=>?_,fun i m=>?_,fun i m=>?_,keep s.now,s.new⟩
    .show(if i=j then AV.sl 1 d 0 n else AV.sl 1 (g i) 0 n)=AV.sl 1 (if i=j then d else g i) 0 n
     split<;>rfl
    .by_cases e:i=j
     .simp only[e,aK];exact⟨keep1 (bG.here hh),s.list.1.none R,aj X⟩
     .simp only[e,aM];obtain⟨U,q2,q3⟩:=s.rows i om;exact⟨keep U,q2,q3⟩
    .by_cases e:i=j
     .simp only[e,aK];exact Q
     .simp only[e,aM];exact s.good i om
   generalize (fun i=>if i=j then d else g i)=g2 at F
   generalize (fun i=>if i=j then w else V i)=V2 at F
   have wn:IntKind.i64.wrap ((n:Int)-1)=(n:Int)-1:=i64_in om om;simp only[*,go_sem];refine aI (fun O S=>∃k w',GG S0 S n p H (j+1) (.sl 1 c' 0 (j+1)) c g2 V2 w'/\digI n p k w w'/\O 0=aC n n H/\O 1=.int .i64 p/\O 5=(.sl 1 c' 0 (j+1))/\O 6=.sl 1 c 0 n/\O 7=.int .i64 ((k:Int)-1)) (fun O S=>Lq (O 7)) ?_ ?_
   .simp only[*,go_sem,aC];exact⟨n,w,F,⟨ae _,t,fun _ _=>rfl,fun i a b=>om⟩,rfl⟩
   .rintro O S2 ⟨k,w',f,⟨hk,hv,l,q⟩,K,L,M,N,I⟩;rcases bn k with rfl|hk0
    .simp only[*,go_sem,aa,aC,show((((0:Nat):Int)-1)<0) by decide,show ¬((0:Int)<=(((0:Nat):Int)-1)) by decide]
     exact⟨(j+1),c,_,_,_,om,f⟩
    .obtain⟨i,rfl⟩:∃i,k=i+1:=⟨k-1,om⟩
     rw[show(((i+1:Nat):Int)-1)=(i:Int) by omega]at I
     have m:i<n:=om
     obtain⟨g',C,u2⟩:=f.now;have T:g' i=.int .i64 (w i):=by rw[u2 i m];show AV.int .i64 (w' i:Nat)=_;rw[l i om]
     have wp:IntKind.i64.wrap ((p:Int)-1)=((p-1:Nat):Int):=eF om om;have hwi:=t i m;by_cases he:w i=p-1
     .have o:(((w i:Nat):Int)==((p-1:Nat):Int))=true:=by simp[he]
      have wi:IntKind.i64.wrap ((i:Int)-1)=(i:Int)-1:=i64_in om om;simp only[go_sem,aa,K,L,M,N,aC,I,m,C,T,wp,o,wi,Lq];refine⟨⟨i,_,f.set C (i:=i) (z:=0),⟨om,hv,fun a D=>?_,fun a D J=>?_⟩,rfl⟩,om⟩
      .show(if a=i then 0 else w' a)=w a
       rw[af om,l a om]
      .show(if a=i then 0 else w' a)=0
       split
       .rfl
       .exact q a om J
     .have o:(((w i:Nat):Int)==((p-1:Nat):Int))=false:=by simp;omega
      have wi:IntKind.i64.wrap ((w i:Int)+1)=((w i+1:Nat):Int):=eF om om;have A:=f.set C (i:=i) (z:=w i+1);have hlt:o7 p w n<o7 p (fun k=>if k=i then w i+1 else w' k) n:=by
       have:=vW (p:=p) (v:=w) (w:=fun k=>if k=i then w i+1 else w' k) (i:=i) (fun k hk=>by show(if k=i then w i+1 else w' k)=w k;rw[af om,l k om]) sm (n-(i+1)) (fun k h3 h4=>⟨by show(if k=i then w i+1 else w' k)=0;rw[af om,q k om om],t k om⟩)
       rwa [(om:i+1+(n-(i+1))=n)]at this
      have B:∀a,a<n->(fun k=>if k=i then w i+1 else w' k) a<p:=fun a D=>by
       show(if a=i then w i+1 else w' a)<p
       split
       .omega
       .rcases aF a (i+1)with h|h
        .rw[l a h];exact t a D
        .rw[q a h D];omega
      have G:=C6 (p:=p) B;have m1:=yF (p:=p) s.now;have m2:=yF (p:=p) A.now;simp only[go_sem,aa,K,L,M,N,aC,I,m,C,T,wp,o,wi,(om:¬((i:Int)<0))]
      refine⟨⟨(j+1),_,c,_,_,_,A,⟨B,om⟩,sm⟩,?_⟩
      rw[m1,m2];omega
  .have o:(iq (fun k=>(w k:Int)) n==1&&fB n H (fun k=>(w k:Int)) n%(p:Int)==0)=false:=by
    simp only[Bool.and_eq_false_iff,it];exact dW fun h=>Q ⟨t,dW fun h5=>h (bW h5),dW fun h5=>h (bQ h5)⟩
   simp only[*,go_sem,aC];have wn:IntKind.i64.wrap ((n:Int)-1)=(n:Int)-1:=i64_in om om;simp only[go_sem,wn];refine aI (fun O S=>∃k w',GG S0 S n p H j x c g V w'/\digI n p k w w'/\O 0=aC n n H/\O 1=.int .i64 p/\O 5=x/\O 6=.sl 1 c 0 n/\O 7=.int .i64 ((k:Int)-1)) (fun O S=>Lq (O 7)) ?_ ?_
   .simp only[*,go_sem,aC];exact⟨n,w,s,⟨ae _,t,fun _ _=>rfl,fun i a b=>om⟩,rfl⟩
   .rintro O S2 ⟨k,w',f,⟨hk,hv,l,q⟩,K,L,M,N,I⟩;rcases bn k with rfl|hk0
    .simp only[*,go_sem,aa,aC,show((((0:Nat):Int)-1)<0) by decide,show ¬((0:Int)<=(((0:Nat):Int)-1)) by decide]
     exact⟨j,c,_,_,_,om,f⟩
    .obtain⟨i,rfl⟩:∃i,k=i+1:=⟨k-1,om⟩
     rw[show(((i+1:Nat):Int)-1)=(i:Int) by omega]at I
     have m:i<n:=om
     obtain⟨g',C,u2⟩:=f.now;have T:g' i=.int .i64 (w i):=by rw[u2 i m];show AV.int .i64 (w' i:Nat)=_;rw[l i om]
     have wp:IntKind.i64.wrap ((p:Int)-1)=((p-1:Nat):Int):=eF om om;have hwi:=t i m;by_cases he:w i=p-1
     .have o:(((w i:Nat):Int)==((p-1:Nat):Int))=true:=by simp[he]
      have wi:IntKind.i64.wrap ((i:Int)-1)=(i:Int)-1:=i64_in om om;simp only[go_sem,aa,K,L,M,N,aC,I,m,C,T,wp,o,wi,Lq];refine⟨⟨i,_,f.set C (i:=i) (z:=0),⟨om,hv,fun a D=>?_,fun a D J=>?_⟩,rfl⟩,om⟩
      .show(if a=i then 0 else w' a)=w a
       rw[af om,l a om]
      .show(if a=i then 0 else w' a)=0
       split
       .rfl
       .exact q a om J
     .have o:(((w i:Nat):Int)==((p-1:Nat):Int))=false:=by simp;omega
      have wi:IntKind.i64.wrap ((w i:Int)+1)=((w i+1:Nat):Int):=eF om om;have A:=f.set C (i:=i) (z:=w i+1);have hlt:o7 p w n<o7 p (fun k=>if k=i then w i+1 else w' k) n:=by
       have:=vW (p:=p) (v:=w) (w:=fun k=>if k=i then w i+1 else w' k) (i:=i) (fun k hk=>by show(if k=i then w i+1 else w' k)=w k;rw[af om,l k om]) sm (n-(i+1)) (fun k h3 h4=>⟨by show(if k=i then w i+1 else w' k)=0;rw[af om,q k om om],t k om⟩)
       rwa [(om:i+1+(n-(i+1))=n)]at this
      have B:∀a,a<n->(fun k=>if k=i then w i+1 else w' k) a<p:=fun a D=>by
       show(if a=i then w i+1 else w' a)<p
       split
       .omega
       .rcases aF a (i+1)with h|h
        .rw[l a h];exact t a D
        .rw[q a h D];omega
      have G:=C6 (p:=p) B;have m1:=yF (p:=p) s.now;have m2:=yF (p:=p) A.now;simp only[go_sem,aa,K,L,M,N,aC,I,m,C,T,wp,o,wi,(om:¬((i:Int)<0))]
      refine⟨⟨j,_,c,_,_,_,A,⟨B,om⟩,sm⟩,?_⟩
      rw[m1,m2];omega

def LineR(S0 S:St)(n p:Nat)(H:aH)(r:AV):Prop:=fM S0 S/\(r=.tup [.nil,.bool false]∨∃d v,r=.tup [.sl 1 d 0 n,.bool true]/\bG S d 2 1 n (fun k=>.int .i64 ((v k:Nat):Int))/\S0 d=ab/\ll n p H v)
def L0(S0:St)(n p t:Nat)(H:aH)(k:1<=n)(i:n<=8)(l:2<=p)(f:p<=900)(v:t<65536):cZ 40 [aC n n H,.int .i64 p,.int .u16 t] S0 (fun r S'=>LineR S0 S' n p H r):=by
 refine jI func40 ntmps40 results40 ?_;simp -dsimp only[go_sem,aa,aC];refine(LX n p i om f).call ?_;by_cases a:p^n<=65536
 .simp -dsimp only[go_sem,aa,a];refine(OY S0 n p H k i l f a).mono ?_;rintro r S' ⟨j,c,g,V,w,x,e⟩;rcases e.list.2 with⟨rfl,rfl⟩|⟨d,m,rfl,g',o,q⟩
  .simp only[go_sem,show((0:Int)==0)=true from rfl];exact⟨e.list.1,bW rfl⟩
  .by_cases h:j=0
   .subst h;simp only[go_sem,aa,o,show((((0:Nat):Int))==0)=true from rfl];exact⟨e.list.1,bW rfl⟩
   .have y:(((j:Nat):Int)==0)=false:=by simp;omega
    have z:IntKind.i64.wrap (t:Int)=t:=i64_in om om;have b:t%j<j:=dh _ om;simp only[*,go_sem,aa,(om:¬((j:Int)=0)),Db,q _ b]
    obtain⟨s,u,A⟩:=e.rows _ b;exact⟨e.list.1,bQ ⟨_,_,rfl,s,u,e.good _ b⟩⟩
 .simp only[go_sem,aa,a];exact⟨fM.refl _,bW rfl⟩
structure VecI(S0 S:St)(c n:Nat)(a:Nat->Int):Prop where
 has:bG S c 2 1 n (fun k=>.int .i64 (a k))
 new:S0 c=ab
 ext:fM S0 S
 rng:∀k,k<n->-128<=a k/\a k<=127
def VecR(S0 S:St)(n:Nat)(r:AV):Prop:=∃c a,r=.sl 1 c 0 n/\VecI S0 S c n a
def VecM(S0 S:St)(bt c n i:Nat):Prop:=(∃a,VecI S0 S c n a)/\iV S bt i/\S0 bt=ab
def Sl(S0:St)(L n:Nat)(nums:Nat->Int)(D:n<=8)(hnums:∀i,i<L->-128<=nums i/\nums i<=127):cZ 34 [.lst 1 L (fun i=>.int .i8 (nums i)),.int .i64 n] S0 (fun r S'=>VecR S0 S' n r):=by
 refine jI func34 ntmps34 results34 ?_;simp -dsimp only[go_sem,a8,aR,cG,cP];refine aG.intro fun d j=>?_
 repeat refine an ?_
 refine aG.intro fun c e=>?_;have n12_10:=(ag e).1;simp only[go_sem,eg];refine aI (fun O S=>∃i:Nat,i<=n/\VecM S0 S d c n i/\O 5=.ptr 1 d 0/\O 6=.sl 1 c 0 n/\O 14=.int .i64 n/\O 15=.int .i64 i) (fun O S=>n-co (O 15)) ?_ ?_
 .simp only[go_sem];refine⟨0,om,⟨⟨fun _=>0,bG.here fun i u=>rfl,(ag e).2,((fM.refl S0).upd j _).upd (ag e).2 _,fun k f=>om⟩,?_,j⟩,rfl⟩
  exact iV.upd ⟨L,nums,0,_,cp,rfl,rfl,ae _,hnums⟩ (aj n12_10) _
 .rintro O S ⟨i,u,⟨⟨a,h⟩,v,l⟩,w,x,m,o⟩;by_cases p:i<n
  .simp -dsimp only[*,go_sem,aa];refine(wX S d i v om).mono ?_;rintro r S' ⟨z,y,rfl,q,f⟩;obtain⟨g,A,B⟩:=h.has;have s:S' c=some ⟨2,1,n,g⟩:=by rw[f c n12_10];exact A
   simp only[go_sem,aa,w,x,m,o,p,s,aS (om:i<1000000),co]
   refine⟨⟨i+1,om,⟨⟨fun k=>if k=i then z else a k,bG.here fun k f=>?_,h.new,?_,fun k f=>?_⟩,q.upd (aj n12_10) _,l⟩,rfl⟩,om⟩
   .simp only[bR];split
    .rfl
    .exact B k f
   .refine fM.upd (fun b X t=>?_) h.new _;have C:b≠d:=by rintro rfl;rw[l]at t;cases t
    rw[f b C];exact h.ext b X t
   .show -128<=(if k=i then z else a k)/\(if k=i then z else a k)<=127
    split
    .exact y
    .exact h.rng k f
  .obtain rfl:i=n:=om
   simp only[*,go_sem,aa];exact⟨c,a,rfl,h⟩
def AF(d k L:Nat)(nums:Nat->Int)(Lb:Nat)(base:Nat->AV)(q t:Nat):AV:=.agg [.int .u8 d,.int .u8 k,.lst 1 L (fun i=>.int .i8 (nums i)),.lst 1 Lb base,.int .u8 q,.int .u16 t]
def MadeM(M:Nat)(S0 S:St)(r:AV):Prop:=fM S0 S/\∃n H p,ge n H/\n<=M/\jb (det n H) p/\p<=17 /\
 (r=.tup [aC n n H,.int .i64 p,.nil,.bool false]∨∃d v,r=.tup [aC n n H,.int .i64 p,.sl 1 d 0 n,.bool true]/\bG S d 2 1 n (fun k=>.int .i64 ((v k:Nat):Int))/\S0 d=ab/\ll n p H v)
def Nw(S0:St)(M d k L:Nat)(nums:Nat->Int)(Lb:Nat)(base:Nat->AV)(q t:Nat)(g:1<=M)(h:M<=5)(x:d<256)(y:k<256)(z:q<256)(A:t<65536)(hnums:∀i,i<L->-128<=nums i/\nums i<=127) :
  cZ 13 [AF d k L nums Lb base q t,.int .i64 M] S0 (fun r S'=>MadeM M S0 S' r):=by
 refine jI func13 ntmps13 results13 ?_;simp -dsimp only[go_sem,aa,AF,eG,a8,aR,cG,cP];refine aG.intro fun o s=>?_;simp -dsimp only[go_sem,bS,bH];have B:(S0.upd o ⟨27,1,6,fun j=>[AV.int .u8 d,.int .u8 k,.lst 1 L (fun i=>.int .i8 (nums i)),.lst 1 Lb base,.int .u8 q,.int .u16 t].getD j .any⟩) o=some ⟨27,1,6,fun j=>[AV.int .u8 d,.int .u8 k,.lst 1 L (fun i=>.int .i8 (nums i)),.lst 1 Lb base,.int .u8 q,.int .u16 t].getD j .any⟩:=cp;refine(L9 _ M d k L nums Lb base g h x y hnums).mono ?_;rintro r S1 ⟨n,H,b,e,rfl,a⟩;have f:=a _ _ B;simp -dsimp only[go_sem,aa,eG,bS,bH,f];refine(Bc S1 n H q b z).mono ?_;rintro r S1' ⟨p,l,u,rfl,rfl⟩;simp -dsimp only[go_sem,aa,bS,bH,f];refine(L0 S1' n p t H b.one (by have:=b.five;omega) (by have:=l.1;omega) om A).mono ?_
 rintro r S2 ⟨m,C⟩;have w:fM S0 S2:=(((fM.refl S0).upd s _).trans a).trans m;rcases C with rfl|⟨c,v,rfl,D,E,F⟩
 .simp only[go_sem,bS,bH];exact⟨w,n,H,p,b,e,l,u,bW rfl⟩
 .simp only[go_sem,bS,bH];exact⟨w,n,H,p,b,e,l,u,bQ ⟨c,v,rfl,D,(((fM.refl S0).upd s _).trans a).none E,F⟩⟩

structure jF(S:St)(bp bh:Nat)(gh:Nat->Nat)(bu:Nat)(gu:Nat->Nat)(n m:Nat)(H U:aH):Prop where
 pair:∃g,S bp=some ⟨183,1,2,g⟩/\g 0=.sl 1 bh 0 n/\g 1=.sl 1 bu 0 m
 h:dE S bh gh n m H
 u:dE S bu gu m m U
 ne:∀i j,i<n->j<m->gh i≠gu j
def dE.stp{S':St}(h:dE S b g n m A)(d:S' b=S b)(e:∀i,i<n->S' (g i)=S (g i)):dE S' b g n m A :=
 ⟨h.outer.via fun X a=>by rw[d];exact a,fun i c=>bG.via (h.row i c) fun X a=>by rw[e i c];exact a,h.inj⟩
def jF.fresh(h:jF S bp bh gh bu gu n m H U){c:Nat}{X:ft}(j:S c=ab):jF (S.upd c X) bp bh gh bu gu n m H U:=by
 obtain⟨g,f,k,l⟩:=h.pair;obtain⟨r,o,_⟩:=h.h.outer;obtain⟨s,p,_⟩:=h.u.outer;have d:∀b,S b≠ab->(S.upd c X) b=S b:=fun b q=>aO (by rintro rfl;exact q j)
 exact⟨⟨g,by rw[d _ (by rw[f];simp)];exact f,k,l⟩,h.h.stp (d _ (by rw[o];simp)) fun i a=>d _ (by obtain⟨_,e,_⟩:=h.h.row i a;rw[e];simp),h.u.stp (d _ (by rw[p];simp)) fun i a=>d _ (by obtain⟨_,e,_⟩:=h.u.row i a;rw[e];simp),h.ne⟩
def jF.setH(h:jF S bp bh gh bu gu n m H U){i j:Nat}{z:Int}{g':Nat->AV}(b:i<n)(a:S (gh i)=some ⟨50,2,m,g'⟩):jF (S.upd (gh i) ⟨50,2,m,bR g' j (.big z)⟩) bp bh gh bu gu n m (eQ H i j z) U:=by
 obtain⟨g,c,d,e⟩:=h.pair;obtain⟨q,f,_⟩:=h.u.outer;have l:bp≠gh i:=by rintro rfl;rw[c]at a;cases a
 have o:bu≠gh i:=by rintro rfl;rw[f]at a;cases a
 exact⟨⟨g,by rw[aO l];exact c,d,e⟩,h.h.set b a,h.u.stp (aO o) fun k p=>aO (aj (h.ne i k b p)),h.ne⟩
def jF.setU(h:jF S bp bh gh bu gu n m H U){i j:Nat}{z:Int}{g':Nat->AV}(b:i<m)(a:S (gu i)=some ⟨50,2,m,g'⟩):jF (S.upd (gu i) ⟨50,2,m,bR g' j (.big z)⟩) bp bh gh bu gu n m H (eQ U i j z):=by
 obtain⟨g,c,d,e⟩:=h.pair;obtain⟨q,f,_⟩:=h.h.outer;have l:bp≠gu i:=by rintro rfl;rw[c]at a;cases a
 have o:bh≠gu i:=by rintro rfl;rw[f]at a;cases a
 exact⟨⟨g,by rw[aO l];exact c,d,e⟩,h.h.stp (aO o) fun k p=>aO (h.ne k i p b),h.u.set b a,h.ne⟩
def pq(i:Nat)(A B:aH):aH:=fun r c=>if r<i then B r c else A r c
def lO(A B:aH):pq 0 A B=A:=by funext r c;simp[pq]
def mE(i:Nat)(A B:aH)(c:Nat):pq i A B i c=A i c:=by simp[pq]
def nJ{B:aH}(h:dE S b g n m (pq n A B)):dE S b g n m B:=h.congr fun r c a _=>by simp[pq,a]
def Jw(i s p:Nat)(q:Int)(A:aH):eQ (pq i A (kK A s p q)) i s (A i s-q*A i p)=pq (i+1) A (kK A s p q):=by
 funext r c;simp only[eQ,pq,kK];by_cases a:r=i
 .subst a;by_cases d:c=s<;>simp[d]
 .by_cases b:r<i
  .simp[a,b,(om:r<i+1)]
  .simp[a,b,(om:¬r<i+1)]
def Jx(i s:Nat)(A:aH):eQ (pq i A (mU A s)) i s (- A i s)=pq (i+1) A (mU A s):=by
 funext r c;simp only[eQ,pq,mU];by_cases a:r=i
 .subst a;by_cases d:c=s<;>simp[d]
 .by_cases b:r<i
  .simp[a,b,(om:r<i+1)]
  .simp[a,b,(om:¬r<i+1)]
def Na(i a b:Nat)(d:a≠b)(A:aH):eQ (eQ (pq i A (Ca A a b)) i a (A i b)) i b (A i a)=pq (i+1) A (Ca A a b):=by
 funext r c;simp only[eQ,pq,Ca,dX];by_cases f:r=i
 .subst f;by_cases g:c=b
  .subst g;simp[aj d]
  .by_cases e:c=a
   .subst e;simp[d]
   .simp[g,e]
 .by_cases e:r<i
  .simp[f,e,(om:r<i+1)]
  .simp[f,e,(om:¬r<i+1)]
def Ro(S:St)(bp bh:Nat)(gh:Nat->Nat)(bu:Nat)(gu:Nat->Nat)(n m:Nat)(H U:aH)(b7:Nat)(q:Int):Prop:=jF S bp bh gh bu gu n m H U/\bG S b7 50 2 1 (fun _=>.big q)/\(∀i,i<n->gh i≠b7)/\∀i,i<m->gu i≠b7
def pG(S0:St)(bp bh bu n m s p:Nat)(gh gu:Nat->Nat)(H U:aH)(q:Int)(k:Nat)(hn:n<=8)(hm:m<=9)(w:s<m)(f:p<m)(hk:k<=1000000000)(E:nb q k)(Q:∀i j,i<n->j<m->nb (H i j) k)(R:∀i j,i<m->j<m->nb (U i j) k)(b:jF S0 bp bh gh bu gu n m H U) :
  cZ 188 [.ptr 1 bp 0,.int .i64 s,.int .i64 p,.big q] S0 (fun _ S'=>jF S' bp bh gh bu gu n m (kK H s p q) (kK U s p q)):=by
 refine iC func188 rfl 92 ntmps188 kr sm ?_
 rw[ml,results188];obtain⟨g,l,r,t⟩:=b.pair;simp only[go_sem,aa];refine aG.intro fun o F=>?_;have c:Ro (S0.upd o ⟨50,2,1,fun _=>.big q⟩) bp bh gh bu gu n m (pq 0 H (kK H s p q)) U o q:=by
  rw[lO];exact⟨b.fresh F,bG.here fun _ _=>rfl,fun i G=>bG.fresh (b.h.row i G) F,fun i G=>bG.fresh (b.u.row i G) F⟩
 generalize S0.upd o ⟨50,2,1,fun _=>.big q⟩=S1 at c ⊢;clear l r t b F;obtain⟨g,l,r,t⟩:=c.1.pair;simp only[*,go_sem];refine aI (fun O S=>∃i:Nat,i<=n/\Ro S bp bh gh bu gu n m (pq i H (kK H s p q)) U o q/\O 0=.ptr 1 bp 0/\O 1=.int .i64 s/\O 2=.int .i64 p/\O 7=.ptr 2 o 0/\O 14=.int .i64 n/\O 15=.int .i64 i) (fun O S=>n-co (O 15)) ?_ ?_
 .simp only[go_sem];exact⟨0,om,c,rfl⟩
 .clear c l r t;rintro O S ⟨i,G,c,I,J,K,L,d,e⟩;obtain⟨b,v,x,y⟩:=id c;obtain⟨g,l,r,t⟩:=b.pair;obtain⟨g7,M,N⟩:=id v;have P:=N 0 om;by_cases a:i<n
  .obtain⟨T,V,W⟩:=b.h.outer;obtain⟨A,B,C⟩:=b.h.row i a;have X:T i=.sl 2 (gh i) 0 m:=W i a;have Y:A s=.big (H i s):=(C s w).trans (by simp only[mE])
   have Z:A p=.big (H i p):=(C p f).trans (by simp only[mE])
   simp -dsimp only[*,go_sem,aa];refine bD 32 kr ?_
   simp only[go_sem,aa,I,J,K,L,d,e,a,l,r,V,X,B,Y,Z,w,f,M,P];refine⟨_,(jl E (Q i p a f) om).pure',_,(t7 (k:=k+k) ((Q i s a w).mono om) (E.mul (Q i p a f)) om).pure',?_⟩;have D:=b.setH (j:=s) (z:=H i s-q*H i p) a B;rw[Jw]at D;simp only[go_sem,aS (om:i<1000000),co]
   exact⟨⟨i+1,om,⟨D,v.upd (aj (x i a)) _,x,y⟩,rfl⟩,om⟩
  .obtain rfl:i=n:=om
   have c:Ro S bp bh gh bu gu i m (kK H s p q) (pq 0 U (kK U s p q)) o q:=by
    rw[lO];exact⟨⟨b.pair,nJ b.h,b.u,b.ne⟩,v,x,y⟩
   simp only[*,go_sem,aa];refine aI (fun O S=>∃j:Nat,j<=m/\Ro S bp bh gh bu gu i m (kK H s p q) (pq j U (kK U s p q)) o q/\O 0=.ptr 1 bp 0/\O 1=.int .i64 s/\O 2=.int .i64 p/\O 7=.ptr 2 o 0/\O 55=.int .i64 m/\O 56=.int .i64 j) (fun O S=>m-co (O 56)) ?_ ?_
   .simp only[*,go_sem];exact⟨0,om,c,rfl⟩
   .clear c l r t M N P b x y v I J K L d e a;rintro O S ⟨j,hj,c,I,J,K,L,d,e⟩;obtain⟨b,v,x,y⟩:=id c;obtain⟨g,l,r,t⟩:=b.pair;obtain⟨g7,M,N⟩:=id v;have P:=N 0 om;by_cases a:j<m
    .obtain⟨T,V,W⟩:=b.u.outer;obtain⟨A,B,C⟩:=b.u.row j a;have X:T j=.sl 2 (gu j) 0 m:=W j a;have Y:A s=.big (U j s):=(C s w).trans (by simp only[mE])
     have Z:A p=.big (U j p):=(C p f).trans (by simp only[mE])
     simp -dsimp only[*,go_sem];refine bD 32 kr ?_
     simp only[go_sem,aa,I,J,K,L,d,e,a,l,t,V,X,B,Y,Z,w,f,M,P];refine⟨_,(jl E (R j p a f) om).pure',_,(t7 (k:=k+k) ((R j s a w).mono om) (E.mul (R j p a f)) om).pure',?_⟩;have D:=b.setU (j:=s) (z:=U j s-q*U j p) a B;rw[Jw]at D;simp only[go_sem,aS (om:j<1000000),co]
     exact⟨⟨j+1,om,⟨D,v.upd (aj (y j a)) _,x,y⟩,rfl⟩,om⟩
    .obtain rfl:j=m:=om
     simp only[*,go_sem];exact⟨b.pair,b.h,nJ b.u,b.ne⟩
def z8(S0:St)(bp bh bu n m s:Nat)(gh gu:Nat->Nat)(H U:aH)(k:Nat)(G:n<=8)(I:m<=9)(e:s<m)(J:k<=1000000000)(E:∀i j,i<n->j<m->nb (H i j) k)(F:∀i j,i<m->j<m->nb (U i j) k)(b:jF S0 bp bh gh bu gu n m H U) :
  cZ 236 [.ptr 1 bp 0,.int .i64 s] S0 (fun _ S'=>jF S' bp bh gh bu gu n m (mU H s) (mU U s)):=by
 refine iC func236 rfl 64 ntmps236 kr sm ?_
 rw[ml,results236];obtain⟨g,f,l,o⟩:=b.pair;simp only[*,go_sem,aa];refine aI (fun O S=>∃i:Nat,i<=n/\jF S bp bh gh bu gu n m (pq i H (mU H s)) U/\O 0=.ptr 1 bp 0/\O 1=.int .i64 s/\O 10=.int .i64 n/\O 11=.int .i64 i) (fun O S=>n-co (O 11)) ?_ ?_
 .simp only[go_sem];exact⟨0,om,by rw[lO];exact b,rfl⟩
 .clear b f l o;rintro O S ⟨i,K,b,t,v,c,d⟩;obtain⟨g,f,l,o⟩:=b.pair;by_cases a:i<n
  .obtain⟨w,x,y⟩:=b.h.outer;obtain⟨A,p,B⟩:=b.h.row i a;have C:w i=.sl 2 (gh i) 0 m:=y i a;have D:A s=.big (H i s):=(B s e).trans (by simp only[mE])
   simp -dsimp only[*,go_sem,aa];refine bD 20 kr ?_
   simp only[go_sem,aa,t,v,c,d,a,f,l,x,C,p,D,e];refine⟨_,(t8 (E i s a e) om).pure',?_⟩;have q:=b.setH (j:=s) (z:=- H i s) a p;rw[Jx]at q;simp only[go_sem,aS (om:i<1000000),co]
   exact⟨⟨i+1,om,q,rfl⟩,om⟩
  .obtain rfl:i=n:=om
   have r:jF S bp bh gh bu gu i m (mU H s) (pq 0 U (mU U s)):=by
    rw[lO];exact⟨b.pair,nJ b.h,b.u,b.ne⟩
   simp only[*,go_sem,aa];refine aI (fun O S=>∃j:Nat,j<=m/\jF S bp bh gh bu gu i m (mU H s) (pq j U (mU U s))/\O 0=.ptr 1 bp 0/\O 1=.int .i64 s/\O 39=.int .i64 m/\O 40=.int .i64 j) (fun O S=>m-co (O 40)) ?_ ?_
   .simp only[*,go_sem];exact⟨0,om,r,rfl⟩
   .clear b r f l o t v c d a;rintro O S ⟨j,L,b,t,v,c,d⟩;obtain⟨g,f,l,o⟩:=b.pair;by_cases a:j<m
    .obtain⟨w,x,y⟩:=b.u.outer;obtain⟨A,p,B⟩:=b.u.row j a;have C:w j=.sl 2 (gu j) 0 m:=y j a;have D:A s=.big (U j s):=(B s e).trans (by simp only[mE])
     simp -dsimp only[*,go_sem];refine bD 20 kr ?_
     simp only[go_sem,aa,t,v,c,d,a,f,o,x,C,p,D,e];refine⟨_,(t8 (F j s a e) om).pure',?_⟩;have q:=b.setU (j:=s) (z:=- U j s) a p;rw[Jx]at q;simp only[go_sem,aS (om:j<1000000),co]
     exact⟨⟨j+1,om,q,rfl⟩,om⟩
    .obtain rfl:j=m:=om
     simp only[*,go_sem];exact⟨b.pair,b.h,nJ b.u,b.ne⟩
def De(S0:St)(bp bh bu n m a b:Nat)(gh gu:Nat->Nat)(H U:aH)(J:n<=8)(K:m<=9)(w:a<m)(x:b<m)(l:a≠b)(d:jF S0 bp bh gh bu gu n m H U) :
  cZ 235 [.ptr 1 bp 0,.int .i64 a,.int .i64 b] S0 (fun _ S'=>jF S' bp bh gh bu gu n m (Ca H a b) (Ca U a b)):=by
 refine iC func235 rfl 102 ntmps235 kr sm ?_
 rw[ml,results235];obtain⟨g,k,o,p⟩:=d.pair;simp only[*,go_sem,aa];refine aI (fun O S=>∃i:Nat,i<=n/\jF S bp bh gh bu gu n m (pq i H (Ca H a b)) U/\O 0=.ptr 1 bp 0/\O 1=.int .i64 a/\O 2=.int .i64 b/\O 12=.int .i64 n/\O 13=.int .i64 i) (fun O S=>n-co (O 13)) ?_ ?_
 .simp only[go_sem];exact⟨0,om,by rw[lO];exact d,rfl⟩
 .clear d k o p;rintro O S ⟨i,L,d,y,A,B,e,f⟩;obtain⟨g,k,o,p⟩:=d.pair;by_cases c:i<n
  .obtain⟨C,D,E⟩:=d.h.outer;obtain⟨q,r,s⟩:=d.h.row i c;have F:C i=.sl 2 (gh i) 0 m:=E i c;have G:q a=.big (H i a):=(s a w).trans (by simp only[mE])
   have I:q b=.big (H i b):=(s b x).trans (by simp only[mE])
   simp -dsimp only[*,go_sem,aa];refine ie 37 kr ?_
   simp (maxSteps:=3000000) -dsimp only[go_sem,Nat.reduceEqDiff,Nat.reduceLT,↓reduceIte,reduceCtorEq,SA,aa,y,A,B,e,f,c,k,o,D,F,r,G,I,w,x];have t:=(d.setH (j:=a) (z:=H i b) c r).setH (j:=b) (z:=H i a) c cp;rw[Na i a b l]at t;simp only[go_sem,aS (om:i<1000000),co]
   exact⟨⟨i+1,om,t,rfl⟩,om⟩
  .obtain rfl:i=n:=om
   have v:jF S bp bh gh bu gu i m (Ca H a b) (pq 0 U (Ca U a b)):=by
    rw[lO];exact⟨d.pair,nJ d.h,d.u,d.ne⟩
   simp only[*,go_sem,aa];refine aI (fun O S=>∃j:Nat,j<=m/\jF S bp bh gh bu gu i m (Ca H a b) (pq j U (Ca U a b))/\O 0=.ptr 1 bp 0/\O 1=.int .i64 a/\O 2=.int .i64 b/\O 59=.int .i64 m/\O 60=.int .i64 j) (fun O S=>m-co (O 60)) ?_ ?_
   .simp only[*,go_sem];exact⟨0,om,v,rfl⟩
   .clear d v k o p y A B e f c;rintro O S ⟨j,M,d,y,A,B,e,f⟩;obtain⟨g,k,o,p⟩:=d.pair;by_cases c:j<m
    .obtain⟨C,D,E⟩:=d.u.outer;obtain⟨q,r,s⟩:=d.u.row j c;have F:C j=.sl 2 (gu j) 0 m:=E j c;have G:q a=.big (U j a):=(s a w).trans (by simp only[mE])
     have I:q b=.big (U j b):=(s b x).trans (by simp only[mE])
     simp -dsimp only[*,go_sem];refine ie 37 kr ?_
     simp (maxSteps:=3000000) -dsimp only[go_sem,Nat.reduceEqDiff,Nat.reduceLT,↓reduceIte,reduceCtorEq,SA,aa,y,A,B,e,f,c,k,p,D,F,r,G,I,w,x];have t:=(d.setU (j:=a) (z:=U j b) c r).setU (j:=b) (z:=U j a) c cp;rw[Na j a b l]at t;simp only[go_sem,aS (om:j<1000000),co]
     exact⟨⟨j+1,om,t,rfl⟩,om⟩
    .obtain rfl:j=m:=om
     simp only[*,go_sem];exact⟨d.pair,d.h,nJ d.u,d.ne⟩

def NA{p:Nat->Prop}(h:∃n,p n):∃n,p n/\∀m,p m->n<=m:=by
 obtain⟨n,c⟩:=h
 induction n using Nat.strongRecOn with
 | _ n ih =>
  by_cases b:∃m,m<n/\p m
  .obtain⟨m,a,d⟩:=b;exact ih m a d
  .exact⟨n,c,fun m h=>by
    rcases aF m n with a|a
    .exact absurd ⟨m,a,h⟩ b
    .exact a⟩
def Ov{c:Code}(I:G->Tm->St->Prop)(m:G->Nat)(l:∃g,I g O S)
  (n:∀Q',Q'=Q->∀g O S,I g O S->∀R:Tm->St->Prop,(∀g' O' S',I g' O' S'->m g'<m g->R O' S')->Aw c (AX.seq R Q') O S):Aw (.loop c) Q O S:=by
 classical
 have d:∀O S,(∃g,I g O S)->∃k,(∃g,I g O S/\m g=k)/\∀j,(∃g,I g O S/\m g=j)->k<=j:=fun O S ⟨g,e⟩=>NA ⟨m g,g,e,rfl⟩;refine aI (fun O S=>∃g,I g O S) (fun O S=>if h:∃g,I g O S then dM (d O S h)else 0) l ?_
 intro O S i;obtain⟨⟨g,e,o⟩,_⟩:=dC (d O S i);refine n Q rfl g O S e _ ?_;intro g' O' S' b f;have a:∃g,I g O' S':=⟨g',b⟩;refine⟨a,?_⟩;rw[Vk i,Vk a,<-o];exact eS ((dC (d O' S' a)).2 _ ⟨g',b,rfl⟩) f
def qV(n:Nat)(H U:aH):aH:=fun r k=>if r<n then H r k else U (r-n) k
def jd(h:r<n)(k:Nat):qV n H U r k=H r k:=ah h
def TD{row:Nat}(h:row<n):qV n (Ca (kK H c j (H row c/H row j)) c j) (Ca (kK U c j (H row c/H row j)) c j)=Mg (qV n H U) row c j:=by
 funext r k;simp only[qV,Mg,Ca,kK,h,aK];split<;>rfl
def QT:qV n (mU H c) (mU U c)=mU (qV n H U) c:=by
 funext r k;simp only[qV,mU];split<;>rfl
def QS{s:Nat}:qV n (kK H s p q) (kK U s p q)=kK (qV n H U) s p q:=by
 funext r k;simp only[qV,kK];split<;>rfl
def Bd.hn{K:Nat}(h:Bd (n+m) m K (qV n H U)){i j:Nat}(b:i<n)(c:j<m):nb (H i j) (K+1):=by
 have d:=h i j om c;rw[jd b]at d;unfold nb;rw[cf];have:=jX (a:=2) (n:=K) om;omega
def Bd.un{K:Nat}(h:Bd (n+m) m K (qV n H U)){i j:Nat}(d:i<m)(c:j<m):nb (U i j) (K+1):=by
 have b:=h (n+i) j om c;unfold qV at b;rw[af om,(om:n+i-n=i)]at b
 unfold nb;rw[cf];have:=jX (a:=2) (n:=K) om;omega
def GaM(S:St)(bp bh:Nat)(gh:Nat->Nat)(bu:Nat)(gu:Nat->Nat)(n m K row c j:Nat)(A0:aH):Prop :=
 ∃H1 U1,jF S bp bh gh bu gu n m H1 U1/\Mm n m row c j A0 (qV n H1 U1)/\Bd (n+m) m K (qV n H1 U1)
def GaR(S:St)(bp bh:Nat)(gh:Nat->Nat)(bu:Nat)(gu:Nat->Nat)(n m K row c:Nat)(A0:aH):Prop :=
 ∃H1 U1,jF S bp bh gh bu gu n m H1 U1/\Mm n m row c m A0 (qV n H1 U1)/\Bd (n+m) m K (qV n H1 U1)/\0<=H1 row c
def Jp:decide (a.sign<0)=decide (a<0):=by
 rcases fy a 0 with h|h|h
 .rw[eZ h];simp;omega
 .subst h;simp
 .rw[dq h];simp;omega
def zL:(a.sign != 0)=(a != 0):=by
 rcases fy a 0 with h|h|h
 .rw[eZ h];simp;omega
 .subst h;simp
 .rw[dq h];simp;omega
def Al(S0:St)(bp bh bu n m K row c:Nat)(gh gu:Nat->Nat)(A0:aH)(F:n<=8)(H:m<=9)(a:row<n)(f:c<m)(hK:kk K m<=400000000)(d:GaM S0 bp bh gh bu gu n m K row c (c+1) A0) :
  cZ 187 [.ptr 1 bp 0,.int .i64 row,.int .i64 c] S0 (fun _ S'=>GaR S' bp bh gh bu gu n m (kk K (m-1-c)) row c A0):=by
 refine iC func187 rfl 74 ntmps187 kr sm ?_
 rw[ml,results187];simp only[go_sem,aS (om:c<1000000)]
 refine aI (fun O S=>∃j:Nat,(c<j/\j<=m)/\GaM S bp bh gh bu gu n m (kk K (j-1-c)) row c j A0/\O 0=.ptr 1 bp 0/\O 1=.int .i64 row/\O 2=.int .i64 c/\O 6=.int .i64 j) (fun O S=>m-co (O 6)) ?_ ?_
 .simp only[go_sem];exact⟨c+1,om,om,by rw[(om:c+1-1-c=0)];exact d,rfl⟩
 .clear d;rintro O S ⟨j,⟨I,hj2⟩,W,s,t,y,v⟩;obtain⟨H1,U1,d,z,l⟩:=id W;obtain⟨g,A,B,X⟩:=d.pair;have hk1:=qt (k:=K) (om:j-1-c<=m)
  by_cases b:j<m
  .have hk2:2*kk K (j-1-c)+4<=400000000:=a9 (qt (k:=K) (om:j-1-c+1<=m)) hK
   simp only[*,go_sem,aa];generalize J:kk K (j-1-c)=Kj at *;refine Ov (G:=aH×aH) (fun x O S'=>jF S' bp bh gh bu gu n m x.1 x.2/\RB n m (n+m) Kj row c j A0 (qV n x.1 x.2)/\O 0=.ptr 1 bp 0/\O 1=.int .i64 row/\O 2=.int .i64 c/\O 6=.int .i64 j) (fun x=>(x.1 row j).natAbs) ?_ ?_
   .refine⟨(H1,U1),d,z.eu l f b,?_⟩;simp only[*,go_sem]
   .clear d z l W A B X s t y v;rintro Q' L ⟨H2,U2⟩ O S' ⟨d,C,s,t,y,v⟩ R Y;dsimp only at d C Y;obtain⟨g,A,B,X⟩:=d.pair;obtain⟨M,N,P⟩:=d.h.outer;obtain⟨D,Q,E⟩:=d.h.row row a;have T:M row=.sl 2 (gh row) 0 m:=P row a;have Z:D c=.big (H2 row c):=E c f;have x3:D j=.big (H2 row j):=E j b;have e:=C.bd;simp -dsimp only[go_sem,aa,s,t,v,A,B,N,T,Q,x3,b,a];refine(ka (e.hn a b) om).call ?_;by_cases o:H2 row j=0
    .have U:(H2 row j != 0)=false:=by simpa using o
     obtain⟨f1,f2⟩:=C.fin (by rw[jd a];exact o)
     simp only[go_sem,zL,U];rw[L];simp only[*,go_sem,aS (om:j<1000000),co]
     refine⟨⟨j+1,om,om,⟨H2,U2,d,f1,?_⟩,rfl⟩,om⟩
     rw[(om:j+1-1-c=j-1-c+1)]
     show Bd (n+m) m (2*kk K (j-1-c)+4) _;rw[J];exact f2
    .have U:(H2 row j != 0)=true:=by simpa using o
     simp -dsimp only[go_sem,zL,U,s,t,v];refine bD 24 kr ?_
     simp -dsimp only[go_sem,aa,s,t,y,v,A,B,N,T,Q,Z,x3,b,a,f];refine⟨_,(oM (e.hn a f) (e.hn a b) om o).pure',?_⟩
     try simp -dsimp only[go_sem]
     have hq:nb (H2 row c/H2 row j) (2*Kj+4+1):=nb.of_le (jL ..) (e.hn a f);refine(pG S' bp bh bu n m c j gh gu H2 U2 _ (2*Kj+4+1) F H f b om hq (fun i k p q=>e.hn p q) (fun i k p q=>e.un p q) d).mono ?_;intro _ S2 r;simp -dsimp only[*,go_sem,aa];refine(De S2 bp bh bu n m c j gh gu _ _ F H f b om r).mono ?_;intro _ S3 V;simp only[go_sem];obtain⟨w,u⟩:=C.step I b om (by rw[jd a];exact o)
     rw[<-TD a]at w u;rw[jd a,jd a]at u;refine Y (_,_) _ _ ⟨V,w,?_⟩ u;simp only[*,go_sem]
  .obtain rfl:j=m:=om
   obtain⟨M,N,P⟩:=d.h.outer;obtain⟨D,Q,E⟩:=d.h.row row a;have T:M row=.sl 2 (gh row) 0 j:=P row a;have Z:D c=.big (H1 row c):=E c f;simp -dsimp only[*,go_sem,aa];refine(ka (l.hn a f) om).call ?_;by_cases o:H1 row c<0
   .simp -dsimp only[go_sem,aa,s,t,y,Jp,o];refine(z8 S bp bh bu n j c gh gu H1 U1 (kk K (j-1-c)+1) F H f om (fun i k p q=>l.hn p q) (fun i k p q=>l.un p q) d).mono ?_;intro _ S2 r;simp only[go_sem];obtain⟨w,u⟩:=z.neg l f;rw[<-QT]at w u;exact⟨_,_,r,w,u,by simp only[mU,aK];omega⟩
   .simp only[*,go_sem,aa,Jp];exact⟨H1,U1,d,z,l,om⟩

end Go.Proofs.YtdobfmlmenaajaaGreatDoor
