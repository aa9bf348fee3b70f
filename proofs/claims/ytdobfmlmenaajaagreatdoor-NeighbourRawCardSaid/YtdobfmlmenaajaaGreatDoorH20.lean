/-
  Lemmas for NeighbourRaw.
-/
import Derived.Test.YtdobfmlmenaajaaGreatDoorH19
namespace Go.Proofs.YtdobfmlmenaajaaGreatDoor
open Go.RowKit Tryz
open _root_.Option renaming none→ab
set_option maxHeartbeats 6400000
set_option maxRecDepth 4096
set_option linter.all false
attribute [local go_sem] Nat.reduceAdd Nat.reduceEqDiff Nat.reduceLeDiff Nat.reduceLT reduceCtorEq Int.ofNat_lt decide_true decide_false Int.zero_le_ofNat
attribute [local go_sem ↓] reduceIte
variable{x:AV}{K:AV->St->Prop}{c j k n p:Nat}{g v w:Nat->Nat}{V:Nat->Nat->Nat}{S:St}{H:aI}
def oM(p:Nat)(v:Nat->Nat):Nat->Nat
 | 0=>0
 | k+1=>oM p v k*p+v k
def C8(h:∀i,i<k->v i<p):oM p v k<p^k:=by
 induction k with
 | zero=>simp[oM]
 | succ k ih =>
  have a:=ih (fun i c=>h i om);have d:=h k om;simp only[oM];have b:(oM p v k+1)*p<=p^k*p:=a9 a (ae _);rw[dM,mW]at b;rw[cb];omega
def zo(h:∀i,i<k->v i=w i):oM p v k=oM p w k:=by
 induction k with
 | zero=>rfl
 | succ k ih=>simp only[oM];rw[ih (fun i a=>h i om),h k om]
theorem vH{p:Nat}{v w:Nat->Nat}{i:Nat}(a:∀k,k<i->w k=v k)(b:w i=v i+1):∀n,(∀k,i<k->k<i+1+n->w k=0/\v k<p)->oM p v (i+1+n)<oM p w (i+1+n)
 | 0,_=>by
  simp only[oM];rw[zo (p:=p) a,b];omega
 | n+1,h=>by
  have ih:=vH a b n (fun k c d=>h k c om);have e:=h (i+1+n) om om;rw[<-kW];simp only[oM,e.1,cF];have f:(oM p v (i+1+n)+1)*p<=oM p w (i+1+n)*p:=a9 ih (ae _);rw[dM,mW]at f;omega
structure lX(n p:Nat)(H:aI)(v:Nat->Nat):Prop where
 lt:∀i,i<n->v i<p
 lead:iO (fun i=>v i) n=1
 norm:eX n H (fun i=>v i) n%p=0
structure GF(S0 S:St)(n p:Nat)(H:aI)(j:Nat)(x:AV)(c:Nat)(g:Nat->Nat)(V:Nat->Nat->Nat)(w:Nat->Nat):Prop where
 list:da 29 1 S0 S x j (fun i=>.sl 1 (g i) 0 n)
 rows:∀i,i<j->bM S (g i) 2 1 n (fun k=>.int .i64 (V i k))/\S0 (g i)=ab/\g i≠c
 good:∀i,i<j->lX n p H (V i)
 now:bM S c 2 1 n (fun k=>.int .i64 (w k))
 new:S0 c=ab
def GF.set{S0:St}(h:GF S0 S n p H j x c g V w){g':Nat->AV}(l:S c=some ⟨2,1,n,g'⟩){i z:Nat} :
  GF S0 (S.upd c ⟨2,1,n,bW g' i (.int .i64 z)⟩) n p H j x c g V (fun k=>if k=i then z else w k):=by
 refine⟨h.list.upd h.new (fun d o e=>h.list.other l om (e▸o)) _,fun a q=>?_,h.good,?_,h.new⟩
 .obtain⟨b,f,m⟩:=h.rows a q;exact⟨b.upd m _,f,m⟩
 .refine bM.here fun k r=>?_;obtain⟨s,b,f⟩:=h.now;rw[l]at b;cases b;simp only[bW];split
  .rfl
  .exact f k r
def digI(n p k:Nat)(v w:Nat->Nat):Prop:=k<=n/\(∀i,i<n->v i<p)/\(∀i,i<k->w i=v i)/\∀i,k<=i->i<n->w i=0
def allH(n p j:Nat)(v:Nat->Nat):Prop:=(∀i,i<n->v i<p)/\j<=oM p v n
noncomputable def SO(n p:Nat)(S:St)(x:AV):Nat:=match x with
 | .sl _ c _ _=>(match S c with
  | some X=>p^n-oM p (fun i=>cj (X.g i)) n
  | ab=>0)
 | _=>0
def yA(h:bM S c 2 1 n (fun k=>.int .i64 (w k))):SO n p S (.sl 1 c 0 n)=p^n-oM p w n:=by
 obtain⟨g,a,b⟩:=h;simp only[SO,a];rw[zo (w:=w) fun i d=>by rw[b i d];simp[cj]]
def AllR(S0 S:St)(n p:Nat)(H:aI)(r:AV):Prop:=∃j c g V w,j<=65536/\GF S0 S n p H j r c g V w
def Lg(x:AV):Nat:=match x with
 | .int _ z=>(z+1).toNat
 | _=>0
def LC(h:bM S c 2 1 n (fun k=>.int .i64 (w k)))(d:0<n)(p:n<=1000)
  (e:∀b h',S b=ab->(∀k,k<n->h' k=.int .i64 (w k))->K (.sl 1 b 0 n) (S.upd b ⟨2,1,n,h'⟩)):fU 29 29 .nil (.sl 1 c 0 n) S K:=by
 obtain⟨g,f,a⟩:=h;have i:Bx S (.sl 1 c 0 n)=some (1,n,fun j=>g (0+j),some c):=by simp[Bx,f]
 unfold fU;rw[show dJ 29=some 2 from rfl,i];refine⟨rfl,rfl,rfl,d,fun j l=>?_,om,fun b m=>e b _ m fun k o=>?_⟩
 .show eF 1 (g (0+j));rw[aD,a j l];simp[eF]
 .show g (0+k)=_;rw[aD,a k o]
def OD(S0:St)(n p:Nat)(H:aI)(h1:1<=n)(h2:n<=8)(hp:2<=p)(hp2:p<=900)(hpn:p^n<=65536) :
  cP 92 [az n n H,.int .i64 p] S0 (fun r S'=>AllR S0 S' n p H r):=by
 refine i9 func92 ntmps92 results92 ?_;simp -dsimp only[go_sem,az]
 repeat refine an ?_
 refine aF.intro fun W P=>?_;simp only[go_sem];refine aH (fun O S=>∃j x c g V w,GF S0 S n p H j x c g V w/\allH n p j w/\O 0=az n n H/\O 1=.int .i64 p/\O 5=x/\O 6=.sl 1 c 0 n) (fun O S=>SO n p S (O 6)) ?_ ?_
 .simp only[go_sem,az];refine⟨0,_,W,fun _=>0,fun _ _=>0,fun _=>0,⟨da.nil ((ft.refl S0).upd P _) _,fun i m=>om,fun i m=>om,bM.here fun i m=>rfl,P⟩,⟨fun i m=>by show 0<p;omega,om⟩,rfl,rfl⟩
 .rintro O S ⟨j,x,c,g,V,w,s,⟨t,hj⟩,K,L,M,N⟩;have hvl:=C8 (p:=p) t;simp -dsimp only[*,go_sem,aa,az];have hI:qr S c n (fun k=>w k):=s.now;refine(sn n p H (fun k=>w k) h2 om om (fun i m=>by have:=t i m;omega)).spec (fI.same (fI.same (fI.i64s hI fI.nil))) ?_
  rcases iJ (lX n p H w)with Q|Q
  .have o:(iO (fun k=>(w k:Int)) n==1&&eX n H (fun k=>(w k:Int)) n%(p:Int)==0)=true:=by simp only[Q.lead,Q.norm];rfl
   simp -dsimp only[*,go_sem,az];refine LC s.now om om ?_;intro d h' R hh;simp -dsimp only[*,go_sem];refine aF.intro fun b18 u=>?_;have n18d:=(ag u).1;have X:c≠d:=s.now.fresh R;simp -dsimp only[*,go_sem];have y:=(s.list.upd (s.list.1.none R) (s.list.fresh R) ⟨2,1,n,h'⟩);have E:=y.fresh u;refine da.app29 (y.upd (y.1.none u) E _) om (show eF 1 (.sl 1 d 0 n) by simp[eF]) (bH ⟨_,_,_,rfl,cn,rfl,fun h=>E _ h rfl⟩) ?_
   intro c' S' Y Z hk3;have F:GF S0 S' n p H (j+1) (.sl 1 c' 0 (j+1)) c (fun i=>if i=j then d else g i) (fun i=>if i=j then w else V i) w:=by
    have G:=y.upd (y.1.none u) E ⟨29,1,1,fun j=>[AV.sl 1 d 0 n].getD j AV.any⟩;have keep1:∀{b:Nat} {gg:Nat->AV},bM (S.upd d ⟨2,1,n,h'⟩) b 2 1 n gg->bM S' b 2 1 n gg:=fun {b gg} o=>by
     obtain⟨gb,U,q2⟩:=o.upd (o.fresh u) ⟨29,1,1,fun j=>[AV.sl 1 d 0 n].getD j AV.any⟩;exact⟨gb,Z b _ U (G.other U om),q2⟩
    have keep:∀{b:Nat} {gg:Nat->AV},bM S b 2 1 n gg->bM S' b 2 1 n gg:=fun {b gg} o=>keep1 (o.upd (o.fresh R) _);refine⟨Y.congr fun i m=>?_,fun i m=>?_,fun i m=>?_,keep s.now,s.new⟩
    .show(if i=j then AV.sl 1 d 0 n else AV.sl 1 (g i) 0 n)=AV.sl 1 (if i=j then d else g i) 0 n
     split<;>rfl
    .by_cases e:i=j
     .simp only[e,aQ];exact⟨keep1 (bM.here hh),s.list.1.none R,aj X⟩
     .simp only[e,aS];obtain⟨U,q2,q3⟩:=s.rows i om;exact⟨keep U,q2,q3⟩
    .by_cases e:i=j
     .simp only[e,aQ];exact Q
     .simp only[e,aS];exact s.good i om
   generalize (fun i=>if i=j then d else g i)=g2 at F
   generalize (fun i=>if i=j then w else V i)=V2 at F
   have wn:IntKind.i64.wrap ((n:Int)-1)=(n:Int)-1:=i64_in om om;simp only[*,go_sem];refine aH (fun O S=>∃k w',GF S0 S n p H (j+1) (.sl 1 c' 0 (j+1)) c g2 V2 w'/\digI n p k w w'/\O 0=az n n H/\O 1=.int .i64 p/\O 5=(.sl 1 c' 0 (j+1))/\O 6=.sl 1 c 0 n/\O 7=.int .i64 ((k:Int)-1)) (fun O S=>Lg (O 7)) ?_ ?_
   .simp only[*,go_sem,az];exact⟨n,w,F,⟨ae _,t,fun _ _=>rfl,fun i a b=>om⟩,rfl⟩
   .rintro O S2 ⟨k,w',f,⟨hk,hv,l,q⟩,K,L,M,N,I⟩;rcases a6 k with rfl|hk0
    .simp only[*,go_sem,aa,az,show((((0:Nat):Int)-1)<0) by decide,show ¬((0:Int)<=(((0:Nat):Int)-1)) by decide]
     exact⟨(j+1),c,_,_,_,om,f⟩
    .obtain⟨i,rfl⟩:∃i,k=i+1:=⟨k-1,om⟩
     rw[show(((i+1:Nat):Int)-1)=(i:Int) by omega]at I
     have m:i<n:=om
     obtain⟨g',C,u2⟩:=f.now;have T:g' i=.int .i64 (w i):=by rw[u2 i m];show AV.int .i64 (w' i:Nat)=_;rw[l i om]
     have wp:IntKind.i64.wrap ((p:Int)-1)=((p-1:Nat):Int):=dW om om;have hwi:=t i m;by_cases he:w i=p-1
     .have o:(((w i:Nat):Int)==((p-1:Nat):Int))=true:=by simp[he]
      have wi:IntKind.i64.wrap ((i:Int)-1)=(i:Int)-1:=i64_in om om;simp only[go_sem,aa,K,L,M,N,az,I,m,C,T,wp,o,wi,Lg];refine⟨⟨i,_,f.set C (i:=i) (z:=0),⟨om,hv,fun a D=>?_,fun a D J=>?_⟩,rfl⟩,om⟩
      .show(if a=i then 0 else w' a)=w a
       rw[af om,l a om]
      .show(if a=i then 0 else w' a)=0
       split
       .rfl
       .exact q a om J
     .have o:(((w i:Nat):Int)==((p-1:Nat):Int))=false:=by simp;omega
      have wi:IntKind.i64.wrap ((w i:Int)+1)=((w i+1:Nat):Int):=dW om om;have A:=f.set C (i:=i) (z:=w i+1);have hlt:oM p w n<oM p (fun k=>if k=i then w i+1 else w' k) n:=by
       have:=vH (p:=p) (v:=w) (w:=fun k=>if k=i then w i+1 else w' k) (i:=i) (fun k hk=>by show(if k=i then w i+1 else w' k)=w k;rw[af om,l k om]) sm (n-(i+1)) (fun k h3 h4=>⟨by show(if k=i then w i+1 else w' k)=0;rw[af om,q k om om],t k om⟩)
       rwa [(om:i+1+(n-(i+1))=n)]at this
      have B:∀a,a<n->(fun k=>if k=i then w i+1 else w' k) a<p:=fun a D=>by
       show(if a=i then w i+1 else w' a)<p
       split
       .omega
       .rcases aC a (i+1)with h|h
        .rw[l a h];exact t a D
        .rw[q a h D];omega
      have G:=C8 (p:=p) B;have m1:=yA (p:=p) s.now;have m2:=yA (p:=p) A.now;simp only[go_sem,aa,K,L,M,N,az,I,m,C,T,wp,o,wi,(om:¬((i:Int)<0))]
      refine⟨⟨(j+1),_,c,_,_,_,A,⟨B,om⟩,sm⟩,?_⟩
      rw[m1,m2];omega
  .have o:(iO (fun k=>(w k:Int)) n==1&&eX n H (fun k=>(w k:Int)) n%(p:Int)==0)=false:=by
    simp only[Bool.and_eq_false_iff,il];exact ez fun h=>Q ⟨t,ez fun h5=>h (bF h5),ez fun h5=>h (bH h5)⟩
   simp only[*,go_sem,az];have wn:IntKind.i64.wrap ((n:Int)-1)=(n:Int)-1:=i64_in om om;simp only[go_sem,wn];refine aH (fun O S=>∃k w',GF S0 S n p H j x c g V w'/\digI n p k w w'/\O 0=az n n H/\O 1=.int .i64 p/\O 5=x/\O 6=.sl 1 c 0 n/\O 7=.int .i64 ((k:Int)-1)) (fun O S=>Lg (O 7)) ?_ ?_
   .simp only[*,go_sem,az];exact⟨n,w,s,⟨ae _,t,fun _ _=>rfl,fun i a b=>om⟩,rfl⟩
   .rintro O S2 ⟨k,w',f,⟨hk,hv,l,q⟩,K,L,M,N,I⟩;rcases a6 k with rfl|hk0
    .simp only[*,go_sem,aa,az,show((((0:Nat):Int)-1)<0) by decide,show ¬((0:Int)<=(((0:Nat):Int)-1)) by decide]
     exact⟨j,c,_,_,_,om,f⟩
    .obtain⟨i,rfl⟩:∃i,k=i+1:=⟨k-1,om⟩
     rw[show(((i+1:Nat):Int)-1)=(i:Int) by omega]at I
     have m:i<n:=om
     obtain⟨g',C,u2⟩:=f.now;have T:g' i=.int .i64 (w i):=by rw[u2 i m];show AV.int .i64 (w' i:Nat)=_;rw[l i om]
     have wp:IntKind.i64.wrap ((p:Int)-1)=((p-1:Nat):Int):=dW om om;have hwi:=t i m;by_cases he:w i=p-1
     .have o:(((w i:Nat):Int)==((p-1:Nat):Int))=true:=by simp[he]
      have wi:IntKind.i64.wrap ((i:Int)-1)=(i:Int)-1:=i64_in om om;simp only[go_sem,aa,K,L,M,N,az,I,m,C,T,wp,o,wi,Lg];refine⟨⟨i,_,f.set C (i:=i) (z:=0),⟨om,hv,fun a D=>?_,fun a D J=>?_⟩,rfl⟩,om⟩
      .show(if a=i then 0 else w' a)=w a
       rw[af om,l a om]
      .show(if a=i then 0 else w' a)=0
       split
       .rfl
       .exact q a om J
     .have o:(((w i:Nat):Int)==((p-1:Nat):Int))=false:=by simp;omega
      have wi:IntKind.i64.wrap ((w i:Int)+1)=((w i+1:Nat):Int):=dW om om;have A:=f.set C (i:=i) (z:=w i+1);have hlt:oM p w n<oM p (fun k=>if k=i then w i+1 else w' k) n:=by
       have:=vH (p:=p) (v:=w) (w:=fun k=>if k=i then w i+1 else w' k) (i:=i) (fun k hk=>by show(if k=i then w i+1 else w' k)=w k;rw[af om,l k om]) sm (n-(i+1)) (fun k h3 h4=>⟨by show(if k=i then w i+1 else w' k)=0;rw[af om,q k om om],t k om⟩)
       rwa [(om:i+1+(n-(i+1))=n)]at this
      have B:∀a,a<n->(fun k=>if k=i then w i+1 else w' k) a<p:=fun a D=>by
       show(if a=i then w i+1 else w' a)<p
       split
       .omega
       .rcases aC a (i+1)with h|h
        .rw[l a h];exact t a D
        .rw[q a h D];omega
      have G:=C8 (p:=p) B;have m1:=yA (p:=p) s.now;have m2:=yA (p:=p) A.now;simp only[go_sem,aa,K,L,M,N,az,I,m,C,T,wp,o,wi,(om:¬((i:Int)<0))]
      refine⟨⟨j,_,c,_,_,_,A,⟨B,om⟩,sm⟩,?_⟩
      rw[m1,m2];omega

def LineR(S0 S:St)(n p:Nat)(H:aI)(r:AV):Prop:=ft S0 S/\(r=.tup [.nil,.bool false]∨∃d v,r=.tup [.sl 1 d 0 n,.bool true]/\bM S d 2 1 n (fun k=>.int .i64 ((v k:Nat):Int))/\S0 d=ab/\lX n p H v)
def LQ(S0:St)(n p t:Nat)(H:aI)(l:1<=n)(i:n<=8)(m:2<=p)(f:p<=900)(y:t<65536):cP 40 [az n n H,.int .i64 p,.int .u16 t] S0 (fun r S'=>LineR S0 S' n p H r):=by
 refine i9 func40 ntmps40 results40 ?_;simp -dsimp only[go_sem,aa,az];refine(LN n p i om f).call ?_;by_cases b:p^n<=65536
 .simp -dsimp only[go_sem,aa,b];refine(OD S0 n p H l i m f b).mono ?_;rintro r S' ⟨j,c,g,V,w,z,e⟩;rcases e.list.2 with⟨rfl,rfl⟩|⟨d,o,rfl,g',k,q⟩
  .simp -dsimp only[go_sem,show((0:Int)==0)=true from rfl];exact⟨e.list.1,bF rfl⟩
  .by_cases h:j=0
   .subst h;simp -dsimp only[go_sem,aa,k,show((((0:Nat):Int))==0)=true from rfl];exact⟨e.list.1,bF rfl⟩
   .have s:(((j:Nat):Int)==0)=false:=by simp;omega
    have u:IntKind.i64.wrap (t:Int)=t:=i64_in om om;have a:t%j<j:=dj _ om;simp -dsimp only[go_sem,aa,k,s,u,(om:¬((j:Int)=0)),pQ,a,q _ a]
    obtain⟨v,x,A⟩:=e.rows _ a;exact⟨e.list.1,bH ⟨_,_,rfl,v,x,e.good _ a⟩⟩
 .simp -dsimp only[go_sem,aa,b];exact⟨ft.refl _,bF rfl⟩
structure VecI(S0 S:St)(c n:Nat)(a:Nat->Int):Prop where
 has:bM S c 2 1 n (fun k=>.int .i64 (a k))
 new:S0 c=ab
 ext:ft S0 S
 rng:∀k,k<n->-128<=a k/\a k<=127
def VecR(S0 S:St)(n:Nat)(r:AV):Prop:=∃c a,r=.sl 1 c 0 n/\VecI S0 S c n a
def VecM(S0 S:St)(bt c n i:Nat):Prop:=(∃a,VecI S0 S c n a)/\iQ S bt i/\S0 bt=ab
def RU(S0:St)(L n:Nat)(nums:Nat->Int)(D:n<=8)(hnums:∀i,i<L->-128<=nums i/\nums i<=127):cP 34 [.lst 1 L (fun i=>.int .i8 (nums i)),.int .i64 n] S0 (fun r S'=>VecR S0 S' n r):=by
 refine i9 func34 ntmps34 results34 ?_;simp -dsimp only[go_sem,bn,bS,cB,cM];refine aF.intro fun d o=>?_
 repeat refine an ?_
 refine aF.intro fun c e=>?_;have n12_10:=(ag e).1;simp -dsimp only[go_sem,cC];refine aH (fun O S=>∃i:Nat,i<=n/\VecM S0 S d c n i/\O 5=.ptr 1 d 0/\O 6=.sl 1 c 0 n/\O 14=.int .i64 n/\O 15=.int .i64 i) (fun O S=>n-cj (O 15)) ?_ ?_
 .simp -dsimp only[go_sem];refine⟨0,om,⟨⟨fun _=>0,bM.here fun i w=>rfl,(ag e).2,((ft.refl S0).upd o _).upd (ag e).2 _,fun k f=>om⟩,?_,o⟩,rfl⟩
  exact iQ.upd ⟨L,nums,0,_,cn,rfl,rfl,ae _,hnums⟩ (aj n12_10) _
 .rintro O S ⟨i,w,⟨⟨a,m⟩,x,p⟩,q,s,h,j⟩;by_cases l:i<n
  .simp -dsimp only[go_sem,aa,q,s,h,j,l];refine(wI S d i x om).mono ?_;rintro r S' ⟨z,y,rfl,t,f⟩;obtain⟨g,A,B⟩:=m.has;have u:S' c=some ⟨2,1,n,g⟩:=by rw[f c n12_10];exact A
   simp -dsimp only[go_sem,aa,q,s,h,j,l,u,aP (om:i<1000000),cj]
   refine⟨⟨i+1,om,⟨⟨fun k=>if k=i then z else a k,bM.here fun k f=>?_,m.new,?_,fun k f=>?_⟩,t.upd (aj n12_10) _,p⟩,rfl⟩,om⟩
   .simp only[bW];split
    .rfl
    .exact B k f
   .refine ft.upd (fun b X v=>?_) m.new _;have C:b≠d:=by rintro rfl;rw[p]at v;cases v
    rw[f b C];exact m.ext b X v
   .show -128<=(if k=i then z else a k)/\(if k=i then z else a k)<=127
    split
    .exact y
    .exact m.rng k f
  .obtain rfl:i=n:=om
   simp -dsimp only[go_sem,aa,q,s,h,j,l];exact⟨c,a,rfl,m⟩
def Az(d k L:Nat)(nums:Nat->Int)(Lb:Nat)(base:Nat->AV)(q t:Nat):AV:=.agg [.int .u8 d,.int .u8 k,.lst 1 L (fun i=>.int .i8 (nums i)),.lst 1 Lb base,.int .u8 q,.int .u16 t]
def MadeM(M:Nat)(S0 S:St)(r:AV):Prop:=ft S0 S/\∃n H p,gk n H/\n<=M/\lp (det n H) p/\p<=17 /\
 (r=.tup [az n n H,.int .i64 p,.nil,.bool false]∨∃d v,r=.tup [az n n H,.int .i64 p,.sl 1 d 0 n,.bool true]/\bM S d 2 1 n (fun k=>.int .i64 ((v k:Nat):Int))/\S0 d=ab/\lX n p H v)
def Nh(S0:St)(M d k L:Nat)(nums:Nat->Int)(Lb:Nat)(base:Nat->AV)(q t:Nat)(g:1<=M)(h:M<=5)(x:d<256)(y:k<256)(z:q<256)(A:t<65536)(hnums:∀i,i<L->-128<=nums i/\nums i<=127) :
  cP 13 [Az d k L nums Lb base q t,.int .i64 M] S0 (fun r S'=>MadeM M S0 S' r):=by
 refine i9 func13 ntmps13 results13 ?_;simp -dsimp only[go_sem,aa,Az,eA,bn,bS,cB,cM];refine aF.intro fun o s=>?_;simp -dsimp only[go_sem,bO,bG];have B:(S0.upd o ⟨27,1,6,fun j=>[AV.int .u8 d,.int .u8 k,.lst 1 L (fun i=>.int .i8 (nums i)),.lst 1 Lb base,.int .u8 q,.int .u16 t].getD j .any⟩) o=some ⟨27,1,6,fun j=>[AV.int .u8 d,.int .u8 k,.lst 1 L (fun i=>.int .i8 (nums i)),.lst 1 Lb base,.int .u8 q,.int .u16 t].getD j .any⟩:=cn;refine(LY _ M d k L nums Lb base g h x y hnums).mono ?_;rintro r S1 ⟨n,H,b,e,rfl,a⟩;have f:=a _ _ B;simp -dsimp only[go_sem,aa,eA,bO,bG,f];refine(A8 S1 n H q b z).mono ?_;rintro r S1' ⟨p,l,u,rfl,rfl⟩;simp -dsimp only[go_sem,aa,bO,bG,f];refine(LQ S1' n p t H b.one (by have:=b.eight;omega) (by have:=l.1;omega) om A).mono ?_
 rintro r S2 ⟨m,C⟩;have w:ft S0 S2:=(((ft.refl S0).upd s _).trans a).trans m;rcases C with rfl|⟨c,v,rfl,D,E,F⟩
 .simp -dsimp only[go_sem,bO,bG];exact⟨w,n,H,p,b,e,l,u,bF rfl⟩
 .simp -dsimp only[go_sem,bO,bG];exact⟨w,n,H,p,b,e,l,u,bH ⟨c,v,rfl,D,(((ft.refl S0).upd s _).trans a).none E,F⟩⟩

end Go.Proofs.YtdobfmlmenaajaaGreatDoor
