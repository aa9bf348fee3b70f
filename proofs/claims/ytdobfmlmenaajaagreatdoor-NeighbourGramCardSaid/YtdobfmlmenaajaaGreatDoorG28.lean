/-
  Lemmas for NeighbourGram.
-/
import Derived.Test.YtdobfmlmenaajaaGreatDoorG27
namespace Go.Proofs.YtdobfmlmenaajaaGreatDoor
open Go.RowKit Tryz
open _root_.Int renaming tmod→eN,tdiv→oZ,dvd_iff_emod_eq_zero→so
open _root_.Option renaming none→ab
set_option maxHeartbeats 6400000
set_option maxRecDepth 4096
set_option linter.all false
attribute [local go_sem] Nat.reduceAdd Nat.reduceEqDiff Nat.reduceLeDiff Nat.reduceLT reduceCtorEq Int.ofNat_lt decide_true decide_false Int.zero_le_ofNat
attribute [local go_sem ↓] reduceIte
variable{K:AV->St->Prop}{ops:Array Oper}{p:Int}{l:List Oper}{b m n:Nat}{v:Nat->Int}{g:Nat->Nat}{A:Nat->Nat->Int}{S:St}{O:Tm}{H R:aJ}
def Mx{m q:Int}{c i:Nat}(k:c<n)(l:i<n)(d:c≠i):m∣det n (fun a j=>setRow R c (fun j=>(R c j-q*R i j)%m) (dG i c a) j)↔m∣det n R:=by
 have o:=Cp (setRow R c (fun j=>(R c j-q*R i j)%m)) l k (aj d);have p:=mG R k l d 1 (-q);have e:=tq (h:=m) n (setRow R c (fun j=>(R c j-q*R i j)%m)) (setRow R c (fun j=>1*R c j+(-q)*R i j)) (fun a b=>by
  simp only[setRow];split
  .rw[show(R c b-q*R i b)%m-(1*R c b+-q*R i b)=(R c b-q*R i b)%m-(R c b-q*R i b) by grind]
   have:=wK (R c b-q*R i b) m;exact⟨-((R c b-q*R i b)/m),by grind⟩
  .simp)
 rw[p,eW]at e;rw[o,Int.dvd_neg];constructor
 .intro f;have g:=Hj f e
  rwa [show ∀x y:Int,x-(x-y)=y from fun x y=>om]at g
 .intro f;have g:=jz e f
  rwa [show ∀x y:Int,x-y+y=x from fun x y=>om]at g
theorem BI{m:Int}(f:2<=m)(d:∀a b:Int,m∣a*b->m∣a∨m∣b):∀(n:Nat) (A:aJ),(∀i j,j<i->i<n->A i j=0)->(m∣det n A↔∃i,i<n/\m∣A i i)
 | 0,A,_=>⟨fun h=>by
   have:=l7 (by simp[det]) h
   simp[det]at this;omega,fun⟨i,h,_⟩=>om⟩
 | n+1,A,h=>by
  have ih:=BI f d n (fun i j=>A (i+1) (j+1)) (fun a b e c=>h _ _ om om);rw[qX A (fun a k=>h (a+1) 0 om om)];constructor
  .intro e;rcases d _ _ e with c|c
   .exact⟨0,om,c⟩
   .obtain⟨i,l,g⟩:=ih.1 c;exact⟨i+1,om,g⟩
  .rintro⟨i,e,c⟩
   cases i with
   | zero=>exact eC c
   | succ i=>exact cU (ih.2 ⟨i,om,c⟩)
def eh.swap(h:eh S b g n m A){p k:Nat}(v:p<n)(w:k<n)(r:p≠k){f:Nat->AV}(l:S b=some ⟨29,1,n,f⟩) :
  eh (S.upd b ⟨29,1,n,bR (bR f p (.sl 1 (g k) 0 m)) k (.sl 1 (g p) 0 m)⟩) b (fun i=>g (dG k p i)) n m (fun i j=>A (dG k p i) j):=by
 obtain⟨g',o,s⟩:=h.outer;rw[l]at o;cases o;have c:∀i,i<n->dG k p i<n:=fun i a=>by unfold dG;split<;>(try split)<;>omega
 refine⟨bJ.here fun i a=>?_,fun i a=>(h.row _ (c i a)).upd (fun e=>?_) _,fun i j a t e=>?_⟩
 .have:=s i a;simp only[bR,dG];by_cases d:i=k
  .subst d;simp
  .by_cases q:i=p
   .subst q;simp[d]
   .simp[d,q,this]
 .exact bJ.ne (bJ.of l) (h.row _ (c i a)) om e.symm
 .have u:=h.inj _ _ (c i a) (c j t) e;unfold dG at u
  grind
structure PD(P:Prop)(n b bm:Nat)(m:Int)(S:St)(g:Nat->Nat)(R:aJ):Prop where
 mat:eh S b g n n R
 rng:∀i j,i<n->j<n->0<=R i j/\R i j<m
 ndet:m∣det n R↔P
 var:dT S bm 2 1 (.int .i64 m)
 ne:b≠bm
 gne:∀a,a<n->g a≠bm
def PR(n c:Nat)(R:aJ):Prop:=∀a d,d<c->d<a->a<n->R a d=0
def cellN(S:St)(b i c:Nat):Nat:=match S b with
 | some X=>(match X.g i with
  | .sl _ b' _ _=>(match S b' with
   | some Y=>(match Y.g c with
    | .int _ z=>z.toNat
    | _=>0)
   | ab=>0)
  | _=>0)
 | ab=>0
def eh.cellN{A:aJ}(h:eh S b g n m A){i c:Nat}(a:i<n)(f:c<m):cellN S b i c=(A i c).toNat:=by
 obtain⟨p,j,k⟩:=h.outer;obtain⟨q,l,o⟩:=h.row i a;have d:=k i a;have e:=o c f;simp only at d e;simp[YtdobfmlmenaajaaGreatDoor.cellN,j,d,l,e]
def wU(P:Prop)(n b:Nat)(g:Nat->Nat)(R:aJ)(m:Int)(S:St)(hn:n<=16)(hm:1<=m)(hm2:m<=1000000)(hM:eh S b g n n R)(hr:∀i j,i<n->j<n->0<=R i j/\R i j<m)(hd:m∣det n R↔P) :
  cE 227 [.sl 1 b 0 n,.int .i64 m] S (fun r S'=>∃(s:Int) (g':Nat->Nat) (R':aJ),r=.int .i64 s/\(s=1∨s=-1)/\eh S' b g' n n R'/\(∀i j,i<n->j<n->0<=R' i j/\R' i j<m)/\(m∣det n R'↔P)/\PR n n R'):=by
 refine jr func227 ntmps227 results227 ?_;simp -dsimp only[go_sem,aa];refine(ms m S).mono ?_;rintro _ S1 ⟨bm,H,rfl,hE,hV⟩;simp -dsimp only[go_sem];refine aH (fun O S'=>∃c:Nat,c<=n/\O 0=.sl 1 b 0 n/\O 5=.fn 257 [.ptr 1 bm 0]/\O 12=.int .i64 n/\O 13=.int .i64 c/\∃(s:Int) (g':Nat->Nat) (R':aJ),O 6=.int .i64 s/\(s=1∨s=-1)/\PD P n b bm m S' g' R'/\PR n c R') (fun O S=>n-ca (O 13)) ?_ ?_
 .simp -dsimp only[go_sem];exact⟨0,om,rfl,1,rfl,bM rfl,g,R,⟨hM.ext hE,hr,hd,hV,bJ.fresh hM.outer H,fun a z=>bJ.fresh (hM.row a z) H⟩,fun a d h=>om⟩
 .rintro O S' ⟨c,hc,w,x,o,p,s,g',R',u,A,l,v⟩;by_cases f:c<n
  .simp -dsimp only[go_sem,u,o,p,f,aT (om:c<1000000)]
   refine aH (fun O S'=>∃i:Nat,i<=n/\O 0=.sl 1 b 0 n/\O 5=.fn 257 [.ptr 1 bm 0]/\O 7=.int .i64 c/\O 8=.int .i64 i/\O 12=.int .i64 n/\O 13=.int .i64 c/\∃(s:Int) (g':Nat->Nat) (R':aJ),O 6=.int .i64 s/\(s=1∨s=-1)/\PD P n b bm m S' g' R'/\PR n c R'/\c<i/\∀a,c<a->a<i->R' a c=0) (fun O S=>n-ca (O 8)) ?_ ?_
   .simp -dsimp only[go_sem,w,x,u,o,p];exact⟨c+1,om,rfl,s,rfl,A,g',R',l,v,om,fun a t C=>om⟩
   .clear w x u o p A l v;rintro O S' ⟨i,hi,w,x,E,B,o,p,s,g',R',u,A,l,v,I,G⟩;by_cases k:i<n
    .simp -dsimp only[go_sem,w,x,u,B,o,p,k];refine aH (fun O S'=>O 0=.sl 1 b 0 n/\O 5=.fn 257 [.ptr 1 bm 0]/\O 7=.int .i64 c/\O 8=.int .i64 i/\O 12=.int .i64 n/\O 13=.int .i64 c/\∃(s:Int) (g':Nat->Nat) (R':aJ),O 6=.int .i64 s/\(s=1∨s=-1)/\PD P n b bm m S' g' R'/\PR n c R'/\c<i/\∀a,c<a->a<i->R' a c=0) (fun O S=>cellN S b i c) ?_ ?_
     .simp -dsimp only[go_sem,w,x,u,E,B,o,p];exact⟨s,rfl,A,g',R',l,v,I,G⟩
     .clear w x u E B o p A l v G;rintro O S' ⟨w,x,E,B,o,p,s,g',R',u,A,l,v,_,G⟩;obtain⟨W,X,v1⟩:=id l.mat.outer;obtain⟨g2,u2,v2⟩:=id (l.mat.row i k);obtain⟨g3,u3,v3⟩:=id (l.mat.row c f);have Y:W i=.sl 1 (g' i) 0 n:=v1 i k;have y1:W c=.sl 1 (g' c) 0 n:=v1 c f;have x2:g2 c=.int .i64 (R' i c):=v2 c f;have x3:g3 c=.int .i64 (R' c c):=v3 c f;have r1:=l.rng i c k f;have Z:=l.rng c c f f;by_cases J:R' i c=0
      .simp -dsimp only[go_sem,aa,w,x,u,E,B,o,p,k,f,X,u2,Y,x2,J,show((0:Int) != 0)=false by simp,aT (om:i<1000000),ca]
       refine⟨⟨i+1,om,rfl,s,rfl,A,g',R',l,v,om,fun a t C=>?_⟩,om⟩
       by_cases e:a=i
       .rw[e];exact J
       .exact G a t om
      .have hq0:=Int.tdiv_nonneg Z.1 r1.1;have hq1:oZ (R' c c) (R' i c)<=R' c c:=by
        rw[fz Z.1];exact nX _ Z.1
       have w1:IntKind.i64.wrap (oZ (R' c c) (R' i c))=oZ (R' c c) (R' i c):=i64_in om om;generalize hq:oZ (R' c c) (R' i c)=q at *;simp -dsimp only[go_sem,aa,w,x,u,E,B,o,p,k,f,X,u2,Y,x2,show(R' i c != 0)=true by simp[J]]
       refine bF 24 kr ?_
       simp -dsimp only[go_sem,aa,w,x,E,B,k,f,X,u2,u3,Y,y1,x2,x3,J,hq,w1];have K:g' i≠g' c:=fun e=>absurd (l.mat.inj i c k f e) om;refine(zn n (g' c) (g' i) bm (R' c) (R' i) q m S' hn hm hm2 om (fun j L=>l.rng c j f L) (fun j L=>l.rng i j k L) K (aj (l.gne c f)) (l.mat.row c f) (l.mat.row i k) l.var).mono ?_;rintro _ S2 ⟨hC,hH⟩;have M:b≠g' c:=l.mat.outer_ne f;have N:S2 b=some ⟨29,1,n,W⟩:=(hC b M).trans X;have hM2:eh S2 b g' n n (setRow R' c (fun j=>(R' c j-q*R' i j)%m)):=by
        refine⟨hC.has M l.mat.outer,fun a z=>?_,l.mat.inj⟩;by_cases e:a=c
        .subst e;exact hH.congr fun j _=>by simp[setRow]
        .refine(hC.has (fun F=>e (l.mat.inj a c z f F)) (l.mat.row a z)).congr fun j _=>by simp[setRow,e]
       have hM3:=hM2.swap f k om N;simp -dsimp only[go_sem];refine ip 13 kr ?_
       have ws:IntKind.i64.wrap (0-s)=-s:=by rw[DM];exact i64_in om om
       have y:c≠i:=om
       simp -dsimp only[go_sem,aa,w,x,u,E,B,o,p,k,f,N,Y,y1,ws];have key:(R' c c-q*R' i c)%m=R' c c-q*R' i c/\0<=R' c c-q*R' i c/\R' c c-q*R' i c<R' i c:=by
        have t:=fz (b:=R' i c) Z.1;have C:=aU (R' c c) J;have h3:=aS (R' c c) (om:0<R' i c)
        have h4:=QN (R' c c) (R' i c);rw[hq]at t;rw[<-t,cR]at h4;exact⟨d6 om om,om,om⟩
       have D:PD P n b bm m (S2.upd b ⟨29,1,n,bR (bR W c (.sl 1 (g' i) 0 n)) i (.sl 1 (g' c) 0 n)⟩) (fun a=>g' (dG i c a)) (fun a j=>setRow R' c (fun j=>(R' c j-q*R' i j)%m) (dG i c a) j):=by
        have Q:∀a,a<n->dG i c a<n:=fun a z=>by unfold dG;split<;>(try split)<;>omega
        refine⟨hM3,fun a j z L=>?_,(Mx f k y).trans l.ndet,(hC.var (aj (l.gne c f)) l.var).upd (aj l.ne) _,l.ne,fun a z=>l.gne _ (Q a z)⟩;simp only[setRow];split
        .exact⟨aU _ om,aS _ om⟩
        .exact l.rng _ _ (Q a z) L
       have ev:∀a d,(fun a j=>setRow R' c (fun j=>(R' c j-q*R' i j)%m) (dG i c a) j) a d=if a=i then(R' c d-q*R' i d)%m else if a=c then R' i d else R' a d:=fun a d=>by
        simp only[setRow,dG];by_cases T:a=i
        .simp[T]
        .by_cases F:a=c
         .simp[F,y,aj y]
         .simp[T,F]
       rw[lU];refine⟨⟨-s,rfl,om,_,_,D,fun a d t C h3=>?_,I,fun a t C=>?_⟩,?_⟩
       .refine(ev a d).trans ?_;by_cases T:a=i
        .rw[ai T,v c d t t f,v i d t om k];simp
        .rw[af T];by_cases F:a=c
         .rw[ai F,v i d t om k]
         .rw[af F];exact v a d t C h3
       .refine(ev a c).trans ?_;rw[af om,af om];exact G a t C
       .have U:=D.mat.cellN k f;have e9:=l.mat.cellN k f;have V:=(ev i c).trans ((ai rfl).trans key.1);simp only at U V;rw[V]at U;omega
    .simp -dsimp only[go_sem,w,x,u,B,o,p,k,aT (om:c<1000000),ca]
     refine⟨⟨c+1,om,rfl,s,rfl,A,g',R',l,fun a d t C h3=>?_⟩,om⟩
     by_cases e:d=c
     .rw[e];exact G a om om
     .exact v a d om C h3
  .obtain rfl:c=n:=om
   simp -dsimp only[go_sem,u,o,p,f];exact⟨s,rfl,A,g',R',l.mat,l.rng,l.ndet,v⟩
def FB(n:Nat)(H:aJ)(m:Int)(C:1<=n)(W:n<=8)(Q:2<=m)(D:m<=1000000)(q:∀a b:Int,m∣a*b->m∣a∨m∣b) :
  cE 222 [aD n n H,.int .i64 m] St.none (fun r S'=>∃d:Int,(d=0↔m∣det n H)/\r=.tup [.int .i64 d,.int .i64 0]):=by
 refine jr func222 ntmps222 results222 ?_;have k:¬(m=0):=om
 simp -dsimp only[go_sem,aa];refine(vV n H C W).call ?_;simp -dsimp only[go_sem,aa];refine(kJ m Q om).call ?_;simp -dsimp only[go_sem,aa];refine(mc n n H m om om om om _ _ (cI _ _)).mono ?_;rintro _ S1 ⟨b,g,rfl,X⟩;simp -dsimp only[go_sem,aa];have E:m∣det n (lz H m)↔m∣det n H:=by
  have T:=tq (h:=m) n (lz H m) H (fun a b=>by
   have:=wK (H a b) m;exact⟨-(H a b/m),by simp only[lz];grind⟩)
  constructor
  .intro h;have F:=Hj h T
   rwa [show ∀x y:Int,x-(x-y)=y from fun x y=>om]at F
  .intro h;have F:=jz T h
   rwa [show ∀x y:Int,x-y+y=x from fun x y=>om]at F
 refine(wU (m∣det n H) n b g (lz H m) m S1 om om D X.1 (fun i j _ _=>qm om i j) E).mono ?_;rintro _ S2 ⟨s,g',R,rfl,Y,u,Z,G,hZ⟩;have ws:IntKind.i64.wrap (s+m)=s+m:=i64_in om om;have v:=(BI Q q n R (fun a d C I=>hZ a d om C I)).symm.trans G;simp -dsimp only[go_sem,ws];refine aH (fun O S'=>∃i:Nat,i<=n/\O 1=.int .i64 m/\O 27=.sl 1 b 0 n/\O 28=.int .i64 n/\O 29=.int .i64 i/\∃d:Int,O 8=.int .i64 d/\(m∣d↔∃a,a<i/\m∣R a a)/\0<=d/\(0<i->d<m)/\eh S' b g' n n R) (fun O S=>n-ca (O 29)) ?_ ?_
 .simp -dsimp only[go_sem];refine⟨0,om,rfl,s+m,rfl,⟨fun h=>?_,fun⟨a,h,_⟩=>om⟩,om,fun h=>om,u⟩
  exfalso;obtain⟨t,ht⟩:=h;have U:s=m*(t-1):=by rw[rf];omega
  have J:m∣1:=by
   rcases Y with rfl|rfl
   .exact⟨_,U⟩
   .exact⟨-(t-1),by rw[ow,<-U];rfl⟩
  have:=l7 om J;omega
 .rintro O S' ⟨i,hi,K,l,o,p,d,L,f,w,M,u⟩;by_cases c:i<n
  .obtain⟨g1,u1,v1⟩:=id u.outer;obtain⟨g2,u2,v2⟩:=id (u.row i c);have x1:g1 i=.sl 1 (g' i) 0 n:=v1 i c;have x2:g2 i=.int .i64 (R i i):=v2 i c;have r1:=Z i i c c;have q0:eN d m=d%m:=aK w;have r2:0<=d%m/\d%m<m:=⟨aU _ k,aS _ om⟩;have r3:=nH (A:=1000000) (B:=1000000) (om:0<=d%m/\d%m<=1000000) (om:0<=R i i/\R i i<=1000000)
   have q1:IntKind.i64.wrap (d%m*R i i)=d%m*R i i:=i64_in om om;have q2:eN (d%m*R i i) m=d%m*R i i%m:=aK r3.1;simp -dsimp only[go_sem,aa,L,l,o,p,c,u1,x1];refine bF 10 kr ?_
   simp -dsimp only[go_sem,aa,K,L,l,o,p,c,u2,x2,k,q0,q1,q2,aT (om:i<1000000),ca]
   refine⟨⟨i+1,om,rfl,d%m*R i i%m,rfl,?_,aU _ k,fun _=>aS _ om,u⟩,om⟩
   have K:m∣d%m*R i i%m↔m∣d%m*R i i:=by rw[so,so,Int.emod_emod]
   have V:m∣d%m↔m∣d:=by rw[so,so,Int.emod_emod]
   rw[K];constructor
   .intro h;rcases q _ _ h with N|N
    .obtain⟨a,h6,z⟩:=f.1 (V.1 N);exact⟨a,om,z⟩
    .exact⟨i,om,N⟩
   .rintro⟨a,h6,z⟩;by_cases e:a=i
    .subst e;exact cU z
    .exact eC (V.2 (f.2 ⟨a,om,z⟩))
  .obtain rfl:i=n:=om
   simp -dsimp only[go_sem,L,l,o,p,c];have P:=M om;refine⟨d,⟨fun h=>v.1 (f.1 (by rw[h];exact iM _)),fun h=>?_⟩,rfl⟩
   have I:=df (f.2 (v.2 h))
   rwa [d6 w P]at I

def Cn(n m:Nat)(A:aJ)(i j:Nat)(S:St)(b a:Nat)(f:i<n)(g:j<m)(c:jS (A i j))(d:dT S b 52 1 (aQ n m A))(e:dT S a 4 1 (.bool true)) :
  cE 99 [.int .i64 i,.int .i64 j,.ptr 1 b 0,.ptr 1 a 0] S (fun r S'=>r=.int .i64 (A i j)/\FD a S S'/\dT S' a 4 1 (.bool true)):=by
 refine jr func99 ntmps99 results99 ?_;obtain⟨h,k,l⟩:=id d;obtain⟨o,p,q⟩:=id e;simp -dsimp only[*,go_sem,aa,aQ,a8];refine(zf c).call ?_;simp only[*,go_sem,aa,aQ,a8];exact⟨(FD.refl a S).upd _,dT.set⟩
def Da(n m:Nat)(A:aJ)(S0:St)(t h:Nat)(hn:n<=16)(hm:m<=16)(hA:∀i j:Nat,i<n->j<m->jS (A i j))(o:dT S0 t 52 1 (aQ n m A))(d:dT S0 h 4 1 (.bool true)) :
  cE 98 [.int .i64 n,.int .i64 m,.fn 99 [.ptr 1 t 0,.ptr 1 h 0]] S0 (fun r S'=>∃b g,r=.sl 1 b 0 n/\eh S' b g n m A/\dT S' h 4 1 (.bool true)):=by
 refine jr func98 ntmps98 results98 ?_;simp -dsimp only[go_sem]
 repeat refine an ?_
 refine aG.intro fun bc fc=>?_;simp only[go_sem];have n1c:t≠bc:=o.fresh fc;have n6c:h≠bc:=d.fresh fc;refine aH (fun O S'=>∃i:Nat,i<=n/\O 1=.int .i64 m/\O 2=.fn 99 [.ptr 1 t 0,.ptr 1 h 0]/\O 7=.sl 1 bc 0 n/\O 13=.int .i64 n/\O 14=.int .i64 i/\dT S' t 52 1 (aQ n m A)/\dT S' h 4 1 (.bool true)/\∃g',ft 29 2 1 St.none S' bc g' n m i (fun a j=>.int .i64 (A a j))) (fun O S=>n-ca (O 14)) ?_ ?_
 .simp only[go_sem];refine⟨0,om,rfl,o.upd n1c _,d.upd n6c _,fun _=>0,(ft.init (S1:=St.none) (b:=bc) (z:=fun _=>.nil) rfl (fun _ _=>rfl) _ _).other fun k X M=>?_⟩
  simp only[St.upd]at M ⊢;split at M
  .rename_i e;rw[ai e];exact M
  .cases M
 .clear o d n1c n6c;rintro O S' ⟨i,hi,G,v,D,p,q,o,d,g',f⟩;by_cases s:i<n
  .obtain⟨H,C,Q⟩:=id f.outer;simp -dsimp only[*,go_sem,aa]
   repeat refine an ?_
   refine aG.intro fun bd fd=>?_;have hdc:bc≠bd:=bJ.fresh f.outer fd;have Y:bR H i (.sl 1 bd 0 m) i=.sl 1 bd 0 m:=by simp[bR]
   simp only[*,go_sem];have E:=f.push dc fd C (fun _=>.int .i64 0)
   have N:t≠bc:=by obtain⟨x,k,_⟩:=o;rintro rfl;rw[C]at k;cases k
   have I:h≠bc:=by obtain⟨x,k,_⟩:=d;rintro rfl;rw[C]at k;cases k
   have u:=(o.upd (o.fresh fd) ⟨2,1,m,fun _=>.int .i64 0⟩).upd N ⟨29,1,n,bR H i (.sl 1 bd 0 m)⟩;have w:=(d.upd (d.fresh fd) ⟨2,1,m,fun _=>.int .i64 0⟩).upd I ⟨29,1,n,bR H i (.sl 1 bd 0 m)⟩;generalize R:(fun a=>if a=i then bd else g' a)=gg at E
   refine aH (fun O S'=>∃j:Nat,j<=m/\O 1=.int .i64 m/\O 2=.fn 99 [.ptr 1 t 0,.ptr 1 h 0]/\O 7=.sl 1 bc 0 n/\O 8=.int .i64 i/\O 13=.int .i64 n/\O 14=.int .i64 i/\O 26=.int .i64 m/\O 27=.int .i64 j/\dT S' t 52 1 (aQ n m A)/\dT S' h 4 1 (.bool true)/\ft 29 2 1 St.none S' bc gg n m (i+1) (fun a c=>.int .i64 (if a=i/\j<=c then 0 else A a c))) (fun O S=>m-ca (O 27)) ?_ ?_
   .simp only[go_sem,G,v,D,p,q];refine⟨0,om,rfl,u,w,E.congr fun a c _ _=>?_⟩
    by_cases e:a=i
    .simp[e]
    .simp[e]
   .clear G v D p q f E C Q R u w o d N I;rintro O S' ⟨j,hj,G,v,D,Z,p,q,J,K,o,d,f⟩;by_cases B:j<m
    .obtain⟨H,C,Q⟩:=id f.outer;obtain⟨g5,u5,v5⟩:=id (f.row i om);have x4:H i=.sl 1 (gg i) 0 m:=(Q i s).trans (ai om);have I:bc≠h:=by obtain⟨x,k,_⟩:=d;rintro rfl;rw[C]at k;cases k
     have k6g:∀a,a<i+1->gg a≠h:=fun a P=>by
      obtain⟨x,k,_⟩:=d;obtain⟨y,l,_⟩:=f.row a P;intro e;rw[e,k]at l;cases l
     have N:t≠h:=by obtain⟨x,k,_⟩:=d;obtain⟨y,l,_⟩:=o;rintro rfl;rw[k]at l;cases l
     simp -dsimp only[*,go_sem];refine fu 8 [[0,1,2,3,4],[],[]] kr ?_
     simp -dsimp only[go_sem,aa,v,D,Z,s,C,x4];refine(Cn n m A i j S' t h s B (hA i j s B) o d).mono ?_;rintro _ S2 ⟨rfl,L,w⟩;have T:=(L bc I).trans C;have F:=(L (gg i) (k6g i om)).trans u5;have U:ft 29 2 1 St.none S2 bc gg n m (i+1) (fun a c=>.int .i64 (if a=i/\j<=c then 0 else A a c)):=⟨eQ.noneS _,f.new,L.has I f.outer,fun a P=>L.has (k6g a P) (f.row a P),f.rnew,f.inj⟩
     have u:=L.var N o;have V:t≠gg i:=by obtain⟨x,k,_⟩:=u;rintro rfl;rw[F]at k;cases k
     have W:h≠gg i:=fun e=>k6g i om e.symm;simp only[go_sem,aa,G,v,D,Z,p,q,J,K,s,B,T,x4,F,aT (om:j<1000000),ca]
     refine⟨⟨j+1,om,rfl,u.upd V _,w.upd W _,(U.put dc (om:i<i+1) F j (.int .i64 (A i j))).congr fun a c _ _=>?_⟩,om⟩
     by_cases e:a=i/\c=j
     .obtain⟨rfl,rfl⟩:=e;rw[ai ⟨rfl,rfl⟩,af om]
     .rw[af e];congr 1;by_cases v:a=i/\j<=c
      .rw[ai v,ai om]
      .rw[af v,af om]
    .simp only[go_sem,G,v,D,p,q,J,K,B,aT (om:i<1000000),ca]
     exact⟨⟨i+1,om,rfl,o,d,gg,f.congr fun a c _ hc=>by rw[af om]⟩,om⟩
  .obtain rfl:i=n:=om
   have hN:=f.imat (A:=A) (fun _ _ _ _=>rfl);simp only[go_sem,aa,G,D,p,q,s];exact⟨bc,rfl,g',hN.1,d⟩
def tJ(n m:Nat)(A:aJ)(h:1<=n)(a:n<=16)(k:1<=m)(c:m<=16)(l:∀i j:Nat,i<n->j<m->jS (A i j)):KD 43 [aQ n m A] n m A:=by
 refine KD.of ?_;refine jr func43 ntmps43 results43 ?_;simp -dsimp only[go_sem,aa,aQ,a8];refine aG.intro fun d r=>?_
 try simp -dsimp only[go_sem]
 refine(kN n m A h a k c).call ?_;simp -dsimp only[go_sem];refine aG.intro fun e o=>?_;have n6_1:=(ag o).1;have f:d≠e:=n6_1.symm;simp -dsimp only[go_sem,aa,eL];refine(Da n m A _ d e a c l ?_ ?_).mono ?_
 .refine dT.upd (dT.upd (dT.new ?_) f _) f _;rfl
 .exact dT.set
 rintro _ S2 ⟨b,g,rfl,p,q⟩;obtain⟨s,t,u⟩:=id q;simp only[*,go_sem,aa];exact⟨b,rfl,g,p⟩

def uA(b:Nat)(m:Int)(S:St):cE 227 [.sl 1 b 0 1,.int .i64 m] S (fun r S'=>r=.int .i64 1/\eQ S S'):=by
 refine jr func227 ntmps227 results227 ?_;simp -dsimp only[go_sem,aa];refine(ms m S).mono ?_;rintro _ S1 ⟨bm,i,rfl,j,n⟩;simp -dsimp only[go_sem];refine fq (fun O S'=>∃c:Nat,c<=1/\S'=S1/\O 0=.sl 1 b 0 1/\O 6=.int .i64 1/\O 12=.int .i64 ((1:Nat):Int)/\O 13=.int .i64 c) (fun O S=>1-ca (O 13)) ?_ ?_
 .simp -dsimp only[go_sem];exact⟨0,om,rfl⟩
 rintro Q' h O S' ⟨c,o,rfl,e,f,a,d⟩;by_cases g:c<1
 .obtain rfl:c=0:=om
  simp -dsimp only[go_sem,a,d,g];refine fq (fun O S=>S=S'/\O 0=.sl 1 b 0 1/\O 6=.int .i64 1/\O 8=.int .i64 1/\O 12=.int .i64 ((1:Nat):Int)/\O 13=.int .i64 ((0:Nat):Int)) (fun O S=>0) ?_ ?_
  .simp -dsimp only[go_sem,e,f,a,d];rw[aT (k:=0) om];rfl
  clear e f a d;rintro Q'' hQ'' O S ⟨rfl,e,f,l,a,d⟩;simp -dsimp only[go_sem,e,l,show decide ((1:Int)<((1:Nat):Int))=false by rfl]
  rw[hQ''];simp -dsimp only[go_sem,e,f,a,d,ca];rw[aT (k:=0) om];exact⟨⟨1,om,rfl⟩,sm⟩
 .simp -dsimp only[go_sem,a,d,g];rw[h];simp -dsimp only[go_sem,f];exact j
def appZ1{g:Nat->AV}(a:S b=some ⟨2,1,1,g⟩)(c:∀b',(b'=b∨S b'=ab)->K (.sl 1 b' 0 2) ((S.del b).upd b' ⟨2,1,2,mI g 1 1 (fun _=>.int .i64 0)⟩)):nr 29 (.sl 1 b 0 1) (.int .i64 1) S K:=by
 show(match dB 29,S b with
  | some e,some X=>(match fU e with
   | some (es',z,_)=>es'=1/\1=bP e/\0=0/\X.ty=e/\X.es=1/\X.n=1/\1<=1/\1+1<=1048576 /\
    ∀b',(b'=b∨S b'=ab)->K (.sl 1 b' 0 (1+1)) ((S.del b).upd b' ⟨e,1,1+1,mI X.g 1 1 (fun _=>z)⟩)
   | ab=>False)
  | _,_=>False)
 rw[a];exact⟨rfl,rfl,rfl,rfl,rfl,rfl,om,om,c⟩
def MT{off len:Nat}{g:Nat->AV}(d:S b=some ⟨2,1,n,g⟩)(c:∀j,j<len->g (off+j)=.int .i64 (v j))(e:0<len)(f:off+len<=n)(p:len<=1000)
  (i:∀b' h,S b'=ab->(∀j,j<len->h j=.int .i64 (v j))->K (.sl 1 b' 0 len) (S.upd b' ⟨2,1,len,h⟩)):fG 29 29 .nil (.sl 1 b off len) S K:=by
 have l:Av S (.sl 1 b off len)=some (1,len,fun j=>g (off+j),some b):=by simp[Av,d,f]
 unfold fG;rw[show dB 29=some 2 from rfl,l];refine⟨rfl,rfl,rfl,e,fun j m=>?_,om,fun b' a=>i b' _ a fun k o=>c k o⟩
 show eg 1 (g (off+j));rw[c j m];simp[eg]
def Eh{K:AV->Prop}(h:K (.sl 1 b 1 1)):kP 29 (.sl 1 b 0 2) (some (.int .i64 1)) ab ab K :=
 ⟨rfl,1,2,rfl,rfl,trivial,om,om,h⟩
def No{K:Tm->St->Prop}(P:St->Prop)(a:P S)(h:∀T,P T->DB ops l O T K):DB ops l O S K:=h S a
def RI:((1:Nat):Int)=1:=om
def c0i:((0:Nat):Int)=0:=om
def KO(a p:Int):Nat->Int:=fun j=>if j=0 then a%p else 1
def tS(a p:Int)(Y:2<=p)(J:p<=1000000)(Z:(bz p.toNat (a%p).toNat).1=1):Fz 179 [aD 1 1 (fun _ _=>a),.int .i64 p] 1 1 (fun _ _=>qr p a):=by
 refine Fz.of ?_;refine jr func179 ntmps179 results179 ?_;have F:0<=a%p/\a%p<p:=⟨aU _ om,aS _ om⟩;generalize K:qr p a=f;have C:0<=f/\f<p:=by rw[<-K];exact yN om a
 simp -dsimp only[go_sem,aa,aD,aV];refine(vV 1 (fun _ _=>a) om om).call ?_;simp -dsimp only[go_sem,aa];refine(kJ p Y om).call ?_;simp -dsimp only[go_sem,aa];refine(mc 1 1 (fun _ _=>a) p om om om om _ _ (cI _ _)).mono ?_;rintro _ S1 ⟨b,g,rfl,L,_⟩;have G:=L.outer;have H:=L.row 0 om;simp -dsimp only[go_sem];refine fq (fun O S=>∃i:Nat,i<=1/\O 1=.int .i64 p/\O 7=.int .i64 ((1:Nat):Int)/\O 8=.sl 1 b 0 1/\O 30=.int .i64 ((1:Nat):Int)/\O 31=.int .i64 i/\∃c,bJ S b 29 1 1 (fun _=>.sl 1 c 0 (1+i))/\bJ S c 2 1 (1+i) (fun j=>.int .i64 (KO a p j))) (fun O S=>1-ca (O 31)) ?_ ?_
 .simp -dsimp only[go_sem];refine⟨0,om,rfl,g 0,G.congr fun j x=>?_,H.congr fun j x=>?_⟩
  .obtain rfl:j=0:=om
   rfl
  .obtain rfl:j=0:=om
   simp[KO,lz]
 clear L G H;rintro Q' y O S ⟨i,hi,r,q,d,z,A,c,e,l⟩;by_cases o:i<1
 .obtain rfl:i=0:=om
  have s:b≠c:=bJ.ne e l dc
  obtain⟨gb,ub,vb⟩:=id e;obtain⟨gc,uc,vc⟩:=id l;have xb:gb 0=.sl 1 c 0 1:=vb 0 om;have xc:gc 0=.int .i64 (a%p):=(vc 0 om).trans (by simp[KO])
  simp -dsimp only[go_sem,aa,q,d,z,A,o,ub,xb,RI,c0i]
  repeat refine an ?_
  refine appZ1 uc ?_;intro b' B;have w:b≠b':=by
   rcases B with rfl|h
   .exact s
   .exact bJ.fresh e h
  refine No (fun T=>bJ T b 29 1 1 (fun _=>.sl 1 c 0 1)/\bJ T b' 2 1 2 (fun j=>.int .i64 (if j=0 then a%p else 0))) ?_ ?_
  .refine⟨⟨gb,?_,vb⟩,bJ.here fun j x=>?_⟩
   .rw[aN w];unfold St.del;rw[af s];exact ub
   .match j,x with
    | 0,_=>simp[mI,bR,xc]
    | 1,_=>simp[mI,bR]
  clear e l ub uc vb vc xb xc s B;rintro T ⟨e,l⟩;obtain⟨gb,ub,vb⟩:=id e;obtain⟨gc,uc,vc⟩:=id l;have I:b'≠b:=w.symm;have M:IntKind.i64.wrap (1+0)=1:=dM (n:=1) om om;have N:IntKind.i64.wrap (0+1)=1:=dM (n:=1) om om;simp -dsimp only[go_sem,aa,r,q,d,z,A,o,ub,uc,RI,c0i,I,eL,M,N,ca]
  repeat refine an ?_
  refine⟨⟨1,om,rfl,b',?_,?_⟩,om⟩
  .refine bJ.upd (bJ.here fun j x=>?_) w _;obtain rfl:j=0:=om
   simp[bR]
  .refine bJ.here fun j x=>?_
   match j,x with
   | 0,_=>simp[bR,vc 0 om,KO]
   | 1,_=>simp[bR,KO]
 obtain rfl:i=1:=om
 simp -dsimp only[go_sem,aa,q,d,z,A,o];rw[y];simp -dsimp only[go_sem,aa,r,d];refine(uA b p S).mono ?_;rintro _ S2 ⟨rfl,D⟩
 replace e:=D.has e
 replace l:=D.has l
 simp -dsimp only[go_sem,aa,r,d];refine(ms p S2).mono ?_;rintro _ S3 ⟨bm,_,rfl,E,_⟩
 replace e:=E.has e
 replace l:=E.has l
 have w0:IntKind.i64.wrap (1-1)=0:=dM (n:=0) om om;simp -dsimp only[go_sem,r,q,RI,w0];clear D E y o;refine fq (fun O S=>∃k:Nat,k<=1/\O 1=.int .i64 p/\O 7=.int .i64 1/\O 8=.sl 1 b 0 1/\O 11=.int .i64 ((k:Int)-1)/\bJ S b 29 1 1 (fun _=>.sl 1 c 0 2)/\bJ S c 2 1 2 (fun j=>.int .i64 (if k=0 then KO a p j*f%p else KO a p j))) (fun O S=>JW (O 11)) ?_ ?_
 .simp -dsimp only[go_sem,r,q,d,RI];exact⟨1,om,rfl,e,l.congr fun j _=>by simp⟩
 clear e l r q d z A;rintro Q' y O S ⟨k,hk,r,q,d,m,e,l⟩;have s:b≠c:=bJ.ne e l dc
 by_cases P:k=0
 .subst P;have Q:decide ((0:Int)<=((0:Nat):Int)-1)=false:=by simp
  simp -dsimp only[go_sem,aa,r,d,m,Q];rw[y];simp -dsimp only[go_sem,d];refine fq (fun O S=>∃i:Nat,i<=1/\O 7=.int .i64 1/\O 8=.sl 1 b 0 1/\O 107=.int .i64 ((1:Nat):Int)/\O 108=.int .i64 i/\∃c,bJ S b 29 1 1 (fun _=>.sl 1 c 0 (2-i))/\bJ S c 2 1 (2-i) (fun j=>.int .i64 (if i=0 then KO a p j*f%p else f))) (fun O S=>1-ca (O 108)) ?_ ?_
  .simp -dsimp only[go_sem,q,d];exact⟨0,om,rfl,c,e,l⟩
  clear e l r q d m s;rintro Q'' hQ'' O S ⟨i,hi,q,d,t,u,c,e,l⟩;have s:b≠c:=bJ.ne e l dc
  by_cases o:i<1
  .obtain rfl:i=0:=om
   obtain⟨gb,ub,vb⟩:=id e;obtain⟨gc,uc,vc⟩:=id l;have xb:gb 0=.sl 1 c 0 2:=vb 0 om;simp -dsimp only[go_sem,aa,q,d,t,u,o,ub,xb,RI,c0i,dd,gX]
   repeat refine an ?_
   refine Eh ?_
   try simp -dsimp only[go_sem,q,d,t,u,o,ub,xb,RI,c0i]
   refine MT (v:=fun _=>f) uc (fun j x=>?_) om om om ?_
   .obtain rfl:j=0:=om
    rw[vc 1 om];simp only[KO];rw[ai trivial,af om,eW,d6 C.1 C.2]
   intro b' h B hh;have w:b≠b':=bJ.fresh e B;have M:IntKind.i64.wrap (0+1)=1:=dM (n:=1) om om;simp -dsimp only[go_sem,aa,q,d,t,u,o,ub,RI,c0i,w,M,ca]
   repeat refine an ?_
   refine⟨⟨1,om,rfl,b',?_,?_⟩,om⟩
   .refine bJ.here fun j x=>?_;obtain rfl:j=0:=om
    simp[bR]
   .refine bJ.upd (bJ.here fun j x=>?_) w.symm _;rw[hh j x];simp
  obtain rfl:i=1:=om
  simp -dsimp only[go_sem,aa,q,d,t,u,o];rw[hQ''];simp -dsimp only[go_sem,d];refine⟨b,rfl,fun _=>c,e,fun i _=>l.congr fun j _=>by simp,fun i j h1 h2 _=>om⟩
 obtain rfl:k=1:=om
 obtain⟨gb,ub,vb⟩:=id e;obtain⟨gc,uc,vc⟩:=id l;have xb:gb 0=.sl 1 c 0 2:=vb 0 om;have xc:gc 0=.int .i64 (a%p):=(vc 0 om).trans (by simp[KO])
 have Q:decide ((0:Int)<=((1:Nat):Int)-1)=true:=by simp
 have w2:((1:Nat):Int)-1=((0:Nat):Int):=om
 rw[w2]at m Q;simp -dsimp only[go_sem,aa,r,d,m,ub,uc,xb,xc];refine(Ao (a%p) p om om F.1 F.2).call ?_;unfold qr at K;rw[K,Z,eS];simp -dsimp only[go_sem,aa,r,d,m,ub,xb,xc];refine(Gb 2 c (KO a p) f p S om om J C (fun j x=>?_) (l.congr fun j _=>by simp)).mono ?_
 .unfold KO;split<;>omega
 rintro _ S4 ⟨R,U⟩;have V:=R.has s e;simp -dsimp only[go_sem,r,d,m];refine fq (fun O S=>S=S4/\O 1=.int .i64 p/\O 7=.int .i64 1/\O 8=.sl 1 b 0 1/\O 11=.int .i64 ((0:Nat):Int)/\O 84=.int .i64 ((0:Nat):Int)/\O 85=.int .i64 0) (fun O S=>0) ?_ ?_
 .simp -dsimp only[go_sem,r,q,d,m]
 clear r q d m;rintro Q'' hQ'' O S ⟨rfl,r,q,d,m,W,X⟩;simp -dsimp only[go_sem,W,X,show decide ((0:Int)<((0:Nat):Int))=false by simp]
 rw[hQ''];have w3:IntKind.i64.wrap (((0:Nat):Int)-1)=((0:Nat):Int)-1:=i64_in om om;simp -dsimp only[go_sem,r,q,d,m,w3,JW];refine⟨⟨0,om,rfl,V,U.congr fun j _=>by simp⟩,sm⟩
def uI(a p:Int)(m:2<=p)(d:p<=1000000)(n:(bz p.toNat (a%p).toNat).1=1):PF 142 [.int .i64 a,.int .i64 p] (.int .i64 (qr p a)):=by
 refine iQ func142 ntmps142 results142 ?_;simp -dsimp only[go_sem];refine aG.intro fun e o=>?_;simp -dsimp only[go_sem];refine aG.intro fun c f=>?_;have n10_9:=(ag f).1
 try simp -dsimp only[go_sem]
 have h:eh ((St.none.upd e ⟨2,1,1,fun j=>[AV.int .i64 a].getD j .any⟩).upd c ⟨29,1,1,fun j=>[AV.sl 1 e 0 1].getD j .any⟩) c (fun _=>e) 1 1 (fun _ _=>a):=by
  refine⟨bJ.here fun j q=>?_,fun j _=>bJ.upd (bJ.here fun k r=>?_) n10_9.symm _,fun i j s t _=>om⟩
  .obtain rfl:j=0:=om
   rfl
  .obtain rfl:k=0:=om
   rfl
 refine(tS a p m d n _ _ (fD.two h.vr.va (VA.refl _ _))).mono ?_;rintro _ S1 ⟨b,g,rfl,l,_⟩;obtain⟨gb,ub,vb⟩:=id l.outer;obtain⟨gc,uc,vc⟩:=id (l.row 0 om);have xb:gb 0=.sl 1 (g 0) 0 1:=vb 0 om;have xc:gc 0=.int .i64 (qr p a):=vc 0 om;simp -dsimp only[go_sem,aa,ub,uc,xb,xc]
 repeat refine an ?_
 exact VR.mf rfl

def gV(n:Nat)(H:aJ)(p:Int)(v:Nat->Int):Nat->Int:=fun i=>kA (lz H p) (lz (fun i _=>v i) p) n p i 0
def sG(a:2<=p)(i:Nat):0<=gV n H p v i/\gV n H p v i<p:=⟨aU _ om,aS _ om⟩
def Ak(n piv:Nat)(H:aJ)(p:Int)(v:Nat->Int)(inv:Int)(h1:1<=n)(hn:n<=8)(hp:2<=p)(N:p<=10000)(g:piv<n)(hw0:gV n H p v piv≠0)(hwz:∀i,i<piv->gV n H p v i=0)(he:(bz p.toNat (gV n H p v piv%p).toNat).1=1)(J:inv=qr p (gV n H p v piv)) :
  QQ 122 [aD n n H,.int .i64 p,aV n v] n n (fun j i=>jM p piv (fun j=>gV n H p v j*inv%p) i j):=by
 refine QQ.of ?_;refine jr func122 ntmps122 results122 ?_;have P:0<=inv/\inv<p:=by rw[J];exact yN om _
 simp -dsimp only[go_sem,aV]
 repeat refine an ?_
 refine aG.intro fun b7 f7=>?_;simp -dsimp only[go_sem];refine aH (fun O S=>∃i:Nat,i<=n/\O 0=aD n n H/\O 1=.int .i64 p/\O 2=aV n v/\O 7=.sl 1 b7 0 n/\O 19=aV n v/\O 20=.int .i64 n/\O 21=.int .i64 i/\∃g',ft 29 2 1 St.none S b7 g' n 1 i (fun a _=>.int .i64 (v a))) (fun O S=>n-ca (O 21)) ?_ ?_
 .simp -dsimp only[go_sem,aV];exact⟨0,om,rfl,fun _=>0,ft.init f7 (fun _ _=>rfl) _ _⟩
 rintro O S ⟨i,hi,Q,m,w,R,x,y,z,g',o⟩;by_cases M:i<n
 .obtain⟨g4,K,v4⟩:=id o.outer;simp -dsimp only[go_sem,aa,aV,Q,m,R,x,y,z,M];refine aG.intro fun b29 U=>?_;have hne:b7≠b29:=bJ.fresh o.outer U;simp -dsimp only[go_sem,aa,aV,Q,m,w,R,x,y,z,M,K,hne,aT (om:i<1000000),ca]
  refine⟨⟨i+1,om,rfl,_,(o.push dc U K (fun j=>[AV.int .i64 (v i)].getD j .any)).congr fun a c ha hc=>?_⟩,om⟩
  obtain rfl:c=0:=om
  by_cases e:a=i
  .subst e;simp
  .rw[af e]
 have hin:i=n:=om
 subst hin;have hN:=o.imat (A:=fun i _=>v i) (fun _ _ _ _=>rfl);simp -dsimp only[go_sem,aa,aV,Q,m,R,x,y,z,M];refine(Kv i i 1 H (fun i _=>v i) p h1 om h1 om om om hp om S _ (fD.three (VA.refl _ _) hN.1.vr.va (VA.refl _ _))).mono ?_;rintro _ S1 ⟨bw,gw,rfl,Y,_,_,_⟩;simp -dsimp only[go_sem,aa,Q,m,R];have V:∀k,kA (lz H p) (lz (fun i _=>v i) p) i p k 0=gV i H p v k:=fun _=>rfl;refine(Dr i 1 piv _ om om g (by rw[V];exact hw0) (fun k hk=>by rw[V];exact hwz k hk)).spec (fD.two Y.vr.va (VA.refl _ _)) ?_
 obtain⟨go,uo,vo⟩:=id Y.outer;obtain⟨gp,up,vp⟩:=id (Y.row piv g);have xo:go piv=.sl 1 (gw piv) 0 1:=vo piv g;have xp:gp 0=.int .i64 (gV i H p v piv):=vp 0 om;simp -dsimp only[go_sem,aa,m,g,uo,up,xo,xp]
 repeat refine an ?_
 refine(uI (gV i H p v piv) p hp om he).call ?_;rw[<-J];simp -dsimp only[go_sem,aV,m,w]
 repeat refine an ?_
 refine aG.intro fun l f14=>?_;simp -dsimp only[go_sem];have hq:∀k,0<=gV i H p v k*inv%p/\gV i H p v k*inv%p<p:=fun k=>⟨aU _ om,aS _ om⟩;have hpp:p*p<=100000000:=by have:=cB N N om om;omega
 have hpp0:0<=p*p:=cZ om om;have L:∀a b:Int,0<=a->a<p->0<=b->b<p->0<=a*b/\a*b<=100000000:=fun a b a0 a1 b0 b1=>by
  have h1:=cB (om:a<=p) (om:b<=p) b0 om
  exact⟨cZ a0 b0,om⟩
 clear uo up vo vp xo xp;refine fq (fun O S=>∃j:Nat,j<=i/\O 1=.int .i64 p/\O 2=aV i v/\O 10=.sl 1 bw 0 i/\O 12=.int .i64 piv/\O 13=.int .i64 inv/\O 14=.sl 1 l 0 i/\O 53=.int .i64 i/\O 54=.int .i64 j/\∃g',ft 29 2 1 S1 S l g' i i j (fun a c=>.int .i64 (jM p piv (fun j=>gV i H p v j*inv%p) c a))) (fun O S=>i-ca (O 54)) ?_ ?_
 .simp -dsimp only[go_sem,m,w,aV];exact⟨0,om,rfl,fun _=>0,ft.init f14 (fun _ _=>rfl) _ _⟩
 clear Q m w R x y z;rintro Q' hQ' O S ⟨j,hj,m,w,B,C,D,t,E,F,g',o⟩;by_cases d:j<i
 .obtain⟨g4,K,v4⟩:=id o.outer;by_cases W:j=piv
  .subst W;simp -dsimp only[go_sem,aa,aV,m,w,B,C,D,t,E,F,d,eS]
   repeat refine an ?_
   refine aG.intro fun f u=>?_;have q:l≠f:=bJ.fresh o.outer u;have r:f≠l:=q.symm;have G:=o.push dc u K (fun _=>.int .i64 0)
   have wpp:IntKind.i64.wrap (p*p)=p*p:=i64_in om om;simp -dsimp only[go_sem,d,K,q,r,eL,wpp,aT (om:j<1000000),ca]
   have s:=G.put dc (om:j<j+1) (g':=fun _=>.int .i64 0) (by rw[ai rfl,aN r,ci]) j (.int .i64 (p*p))
   rw[show(if j=j then f else g' j)=f from ai rfl]at s
   refine⟨⟨j+1,om,rfl,_,s.congr fun a c ha hc=>?_⟩,om⟩
   by_cases ea:a=j
   .subst ea;simp only[jO,aO,jM];by_cases ec:c=a
    .rw[ai ec,ai ec]
    .rw[af ec,af ec]
   .rw[af (fun h=>ea h.1),af ea]
  .have hjb:((j:Int)==(piv:Int))=false:=by simp;omega
   simp -dsimp only[go_sem,aa,aV,m,w,B,C,D,t,E,F,d,hjb]
   repeat refine an ?_
   refine aG.intro fun f u=>?_;have q:l≠f:=bJ.fresh o.outer u;have r:f≠l:=q.symm;have G:=o.push dc u K (fun _=>.int .i64 0)
   simp -dsimp only[go_sem,d,K,q,r,eL];have s:=G.put dc (om:j<j+1) (g':=fun _=>.int .i64 0) (by rw[ai rfl,aN r,ci]) j (.int .i64 p)
   rw[show(if j=j then f else g' j)=f from ai rfl]at s
   refine nY (fun T=>∃gg,ft 29 2 1 S1 T l gg i i (j+1) (fun a c=>if a=j then .int .i64 (if c=j then p else 0)else .int .i64 (jM p piv (fun j=>gV i H p v j*inv%p) c a))) ⟨_,s.congr fun a c ha hc=>?_⟩ ?_
   .by_cases ea:a=j
    .subst ea;simp only[jO,aO];by_cases ec:c=a
     .rw[ai ec,ai ec]
     .rw[af ec,af ec]
    .rw[af (fun h=>ea h.1),af ea,af ea]
   clear o G s K v4 q r;rintro T ⟨gg,Z⟩;obtain⟨go,uo,vo⟩:=id Z.outer;obtain⟨gr,ur,vr⟩:=id (Z.row j om);have X:=Y.ext Z.ext;obtain⟨gx,ux,vx⟩:=id X.outer;obtain⟨gy,uy,vy⟩:=id (X.row j d);have xo:go j=.sl 1 (gg j) 0 i:=(vo j d).trans (ai om);have xx:gx j=.sl 1 (gw j) 0 1:=vx j d;have xy:gy 0=.int .i64 (gV i H p v j):=vy 0 om;obtain⟨w0,w1⟩:=sG (n:=i) (H:=H) (v:=v) hp j;obtain⟨m0,m1⟩:=L _ _ w0 w1 P.1 P.2;obtain⟨q0,q1⟩:=hq j;obtain⟨r0,r1⟩:=L (p-1) _ om om q0 q1;have k1:IntKind.i64.wrap (0-p)=-p:=by rw[DM];exact i64_in om om
   have k2:IntKind.i64.wrap (gV i H p v j*inv)=gV i H p v j*inv:=i64_in om om;have k3:(gV i H p v j*inv).tmod p=gV i H p v j*inv%p:=aK m0;have k4:IntKind.i64.wrap (-p*(gV i H p v j*inv%p))=-p*(gV i H p v j*inv%p):=by
    rw[Int.sub_mul,eW]at r0 r1;rw[xU];exact i64_in om om
   have hp0:¬p=0:=om
   refine bF 19 kr ?_
   simp -dsimp only[go_sem,aa,aV,m,w,B,C,D,t,E,F,d,uo,ur,ux,uy,xo,xx,xy,g,k1,k2,k3,k4,hp0,aT (om:j<1000000),ca]
   repeat refine an ?_
   refine⟨⟨j+1,om,rfl,gg,(Z.put dc (om:j<j+1) ur piv (.int .i64 (-p*(gV i H p v j*inv%p)))).congr fun a c ha hc=>?_⟩,om⟩
   by_cases ea:a=j
   .subst ea;simp only[jO,aO,jM];rw[af W];by_cases ec:c=piv
    .rw[ai ec,af om,ai ec,xU]
    .rw[af ec];by_cases I:c=a
     .rw[ai I,ai I]
     .rw[af I,af I,af ec]
   .rw[af (fun h=>ea h.1),af ea]
 have hji:j=i:=om
 rw[hji]at o;have hN2:=o.imat (A:=fun j i'=>jM p piv (fun j=>gV i H p v j*inv%p) i' j) (fun _ _ _ _=>rfl);simp -dsimp only[go_sem,aa,m,w,B,C,D,t,E,F,d];rw[hQ'];simp -dsimp only[go_sem,t];exact⟨l,rfl,g',hN2.1⟩

def R3(n:Nat)(H:aJ)(k:Nat)(S:St)(x:AV):Prop:=x=aD (n-k) (n-k) (cM H k)∨∃b g,x=.sl 1 b 0 (n-k)/\eh S b g (n-k) (n-k) (cM H k)
def kH{a b A B:Int}(d:-A<=a/\a<=A)(e:-B<=b/\b<=B):-(A*B)<=a*b/\a*b<=A*B:=by
 have h:(a*b).natAbs<=A.natAbs*B.natAbs:=by rw[cY];exact bs om om
 have c:(A.natAbs:Int)*B.natAbs=A*B:=by rw[show(A.natAbs:Int)=A by omega,show(B.natAbs:Int)=B by omega]
 have f:((A.natAbs*B.natAbs:Nat):Int)=A*B:=by rw[bL,c]
 omega
def JN(n:Nat)(H:aJ):aD n n H=aD (n-0) (n-0) (cM H 0):=by
 simp only[aD,aV,eO,ie]

def pN(m:Nat)(A:aJ)(β:Bool)(j:1<=m)(w:m<=8)(u:∀i,i<m->-24696061952<=A i 0/\A i 0<=24696061952)(hβ:β=true↔uE A m):PF 108 [aD m m A] (.bool β):=by
 refine iQ func108 ntmps108 results108 ?_;have v:0<m:=om
 have b:(0:Int)<(m:Int):=om
 by_cases n:A 0 0<=0
 .simp -dsimp only[go_sem,aV,aD,b,n,gX,dd];rw[dW hβ fun h=>by have:=h.1;omega]
  exact VR.mf rfl
 by_cases q:(65536:Int)<=A 0 0
 .simp -dsimp only[go_sem,aV,aD,b,n,q,gX,dd];rw[dW hβ fun h=>by have:=h.2.1;omega]
  exact VR.mf rfl
 simp -dsimp only[go_sem,aV,aD,b,n,q,gX,dd];refine F9 1 rfl rfl rfl om ?_;simp -dsimp only[go_sem];refine aH (fun O S=>∃i:Nat,i<=m-1/\(∀a,1<=a->a<1+i->2*A a 0<=A 0 0/\-2*A a 0<=A 0 0)/\O 3=.int .i64 (A 0 0)/\O 18=.lst 1 (m-1) (fun i=>aV m (A (1+i)))/\O 19=.int .i64 ((m-1:Nat):Int)/\O 20=.int .i64 i) (fun O S=>m-ca (O 20)) ?_ ?_
 .simp -dsimp only[go_sem,aV];exact⟨0,om,fun a j r=>om,rfl⟩
 .rintro O S ⟨i,x,k,l,c,d,f⟩;by_cases g:i<m-1
  .obtain⟨y,z⟩:=u (1+i) om;have o:IntKind.i64.wrap (2*A (1+i) 0)=2*A (1+i) 0:=i64_in om om;have s:IntKind.i64.wrap (-2*A (1+i) 0)=-2*A (1+i) 0:=i64_in om om;by_cases p:A 0 0<2*A (1+i) 0
   .simp -dsimp only[go_sem,aa,aV,l,c,d,f,b,g,o,p];rw[dW hβ fun h=>by have:=h.2.2 (1+i) om om;omega]
    exact VR.mf rfl
   by_cases t:A 0 0 < -2*A (1+i) 0
   .simp -dsimp only[go_sem,aa,aV,l,c,d,f,b,g,o,s,p,t];rw[dW hβ fun h=>by have:=h.2.2 (1+i) om om;omega]
    exact VR.mf rfl
   simp -dsimp only[go_sem,aa,aV,l,c,d,f,b,g,o,s,p,t,aT (om:i<1000000),ca]
   refine⟨⟨i+1,om,fun a j r=>?_,rfl⟩,om⟩
   by_cases e:a=1+i
   .rw[e];omega
   .exact k a j om
  .simp -dsimp only[go_sem,aa,aV,l,c,d,f,g];rw[hβ.2 ⟨om,om,fun a j r=>k a j om⟩]
   exact VR.mf rfl
def EG(n:Nat)(A:aJ)(β:Bool)(v:1<=n)(E:n<=8)(hβ:β=true↔∀i j,i<n->j<n->A i j=A j i/\-262144<A i j/\A i j<262144):PF 107 [aD n n A] (.bool β):=by
 refine iQ func107 ntmps107 results107 ?_;simp -dsimp only[go_sem,aV,aD,(om:¬((n:Int)<1)),(om:¬((8:Int)<(n:Int)))]
 refine aH (fun O S=>∃i:Nat,i<=n/\O 0=aD n n A/\O 3=.int .i64 n/\O 18=aD n n A/\O 19=.int .i64 n/\O 20=.int .i64 i) (fun O S=>n-ca (O 20)) ?_ ?_
 .simp -dsimp only[go_sem,aV,aD];exact⟨0,om,rfl⟩
 .rintro O S ⟨i,D,l,z,r,s,t⟩;by_cases c:i<n
  .simp -dsimp only[go_sem,aV,aD,l,z,r,s,t,c,show((n:Int) != n)=false by simp,aT (om:i<1000000),ca]
   exact⟨⟨i+1,om,rfl⟩,om⟩
  .simp -dsimp only[go_sem,aV,aD,l,z,r,s,t,c];clear z r s t;refine aH (fun O S=>∃i:Nat,i<=n/\(∀a b,a<i->b<n->A a b=A b a/\-262144<A a b/\A a b<262144)/\O 0=aD n n A/\O 29=aD n n A/\O 30=.int .i64 n/\O 31=.int .i64 i) (fun O S=>n-ca (O 31)) ?_ ?_
   .simp -dsimp only[go_sem,aV,aD,l];exact⟨0,om,fun a b v y=>om,rfl⟩
   .clear l;rintro O S ⟨i,D,w,l,d,f,g⟩;by_cases c:i<n
    .simp -dsimp only[go_sem,aV,aD,d,f,g,c];refine aH (fun O S=>∃j:Nat,j<=n/\(∀b,b<j->A i b=A b i/\-262144<A i b/\A i b<262144)/\O 0=aD n n A/\O 6=.int .i64 i/\O 29=aD n n A/\O 30=.int .i64 n/\O 31=.int .i64 i/\O 36=aV n (A i)/\O 37=.int .i64 n/\O 38=.int .i64 j) (fun O S=>n-ca (O 38)) ?_ ?_
     .simp -dsimp only[go_sem,aV,aD,l,d,f,g];exact⟨0,om,fun b v=>om,rfl⟩
     .clear l d f g;rintro O S ⟨j,F,q,l,x,d,f,g,m,o,p⟩;by_cases k:j<n
      .by_cases u:A i j=A j i
       .by_cases B:A i j<=-262144
        .simp -dsimp only[go_sem,aV,aD,l,x,d,f,g,m,o,p,c,k,show(A i j != A j i)=false by rw[u];simp,B]
         rw[dW hβ fun h=>by have:=h i j c k;omega]
         exact VR.mf rfl
        by_cases C:262144<=A i j
        .simp -dsimp only[go_sem,aV,aD,l,x,d,f,g,m,o,p,c,k,show(A i j != A j i)=false by rw[u];simp,B,C]
         rw[dW hβ fun h=>by have:=h i j c k;omega]
         exact VR.mf rfl
        simp -dsimp only[go_sem,aV,aD,l,x,d,f,g,m,o,p,c,k,show(A i j != A j i)=false by rw[u];simp,B,C,aT (om:j<1000000),ca]
        refine⟨⟨j+1,om,fun b v=>?_,rfl⟩,om⟩
        by_cases e:b=j
        .rw[e];exact⟨u,om,om⟩
        .exact q b om
       .simp -dsimp only[go_sem,aV,aD,l,x,d,f,g,m,o,p,c,k,show(A i j != A j i)=true by simpa using u]
        rw[dW hβ fun h=>u (h i j c k).1];exact VR.mf rfl
      .simp -dsimp only[go_sem,aV,aD,l,x,d,f,g,m,o,p,c,k,aT (om:i<1000000),ca]
       refine⟨⟨i+1,om,fun a b v y=>?_,rfl⟩,om⟩
       by_cases e:a=i
       .rw[e];exact q b om
       .exact w a b om y
    .simp -dsimp only[go_sem,aV,aD,d,f,g,c];rw[hβ.2 fun a b v y=>w a b om y];exact VR.mf rfl

def xe(n:Nat)(H:aJ)(β:Bool)(hn1:1<=n)(q:n<=8)(hβ:β=true↔(∀i j,i<n->j<n->H i j=H j i)/\AG H n):PF 48 [aD n n H] (.bool β):=by
 obtain⟨βs,hβs⟩:=nN (∀i j,i<n->j<n->H i j=H j i/\-262144<H i j/\H i j<262144);refine iQ func48 ntmps48 results48 ?_;simp -dsimp only[go_sem,aa,aD,aV];refine(EG n H βs hn1 om hβs).call ?_
 cases βs with
 | false =>
  simp -dsimp only[go_sem];rw[dW hβ fun h=>by
   have:=hβs.2 fun i j hi hj=>⟨h.1 i j hi hj,by have:=(h.2.red h.1 q).entry q hi hj;omega⟩
   cases this]
  exact VR.mf rfl
 | true =>
 have I:∀i j,i<n->j<n->H i j=H j i:=fun i j hi hj=>(hβs.1 rfl i j hi hj).1;have hA:∀i j,i<n->j<n->-262144<H i j/\H i j<262144:=fun i j hi hj=>(hβs.1 rfl i j hi hj).2;have T:¬AG H n->β=false:=fun h=>dW hβ fun hh=>h hh.2;simp -dsimp only[go_sem];refine aH (fun O S=>∃(k:Nat) (x:AV),k<n/\wZ H n k/\PJ H n k/\R3 n H k S x/\O 3=x/\O 4=.int .i64 (det k H)) (fun O S=>match O 3 with|.lst _ m _=>m|.sl _ _ _ m=>m|_=>0) ?_ ?_
 .simp -dsimp only[go_sem];exact⟨0,om,wZ.init,PJ.init hA,_,bM (JN n H),rfl,by simp[det]⟩
 .rintro O S ⟨k,x,hk,D,y,hSt,p,w⟩;have d0:=D.pos k om;have d2:=D.lt k om;have b0:=y.num (i:=0) (j:=0) ⟨d0,d2⟩ q om om;rw[c8]at b0;obtain⟨βk,hβk⟩:=nN (uE (cM H k) (n-k));have r:cM H k 0 0=det (k+1) H:=c8 H k;have d:0<n-k:=om
  have t:(0:Int)<((n-k:Nat):Int):=om
  by_cases U:1<n-k
  .have f:(1:Int)<((n-k:Nat):Int):=om
   have wsub:IntKind.i64.wrap (((n-k:Nat):Int)-1)=((n-(k+1):Nat):Int):=dM om om;rcases hSt with rfl|⟨b,g,rfl,C⟩
   .simp -dsimp only[go_sem,aa,aD,aV,p,f,t,r];refine(pN (n-k) (cM H k) βk d om (fun i hi=>y.num ⟨d0,d2⟩ q om om) hβk).spec (fD.cons (VA.refl _ _) fD.nil) ?_
    cases βk with
    | false =>
     simp -dsimp only[go_sem,aD,aV,p,wsub];rw[T fun h=>by have:=hβk.2 (h.short I q hk);cases this]
     exact VR.mf rfl
    | true =>
    have J:=hβk.1 rfl;obtain⟨d1,d3,K⟩:=id J;rw[c8]at d1 d3 K;have z:=y.step D I J;simp -dsimp only[go_sem,aD,aV,p,wsub]
    repeat refine an ?_
    refine aG.intro fun bc fc=>?_;simp -dsimp only[go_sem];refine aH (fun O S'=>∃i:Nat,i<=n-(k+1)/\O 3=aD (n-k) (n-k) (cM H k)/\O 4=.int .i64 (det k H)/\O 5=.int .i64 (det (k+1) H)/\O 6=.sl 1 bc 0 (n-(k+1))/\O 31=.int .i64 ((n-(k+1):Nat):Int)/\O 32=.int .i64 i/\∃g',ft 29 2 1 S S' bc g' (n-(k+1)) (n-(k+1)) i (fun a j=>.int .i64 (cM H (k+1) a j))) (fun O S=>n-ca (O 32)) ?_ ?_
    .simp -dsimp only[go_sem,aD,aV,p,w];exact⟨0,om,rfl,fun _=>0,ft.init fc (fun _ _=>rfl) _ _⟩
    .clear p w;rintro O S' ⟨i,hi,p,w,E,F,l,o,g',u⟩;by_cases v:i<n-(k+1)
     .have V:i+1<n-k:=om
      obtain⟨g4,G,W⟩:=id u.outer;simp -dsimp only[go_sem,aa,aD,aV,p,w,E,F,l,o,v,V,aT (om:i<1000000),G]
      repeat refine an ?_
      refine aG.intro fun bd fd=>?_;have hdc:bc≠bd:=bJ.fresh u.outer fd;simp -dsimp only[go_sem,v,G,hdc];have L:=u.push dc fd G (fun _=>.int .i64 0)
      generalize hgg:(fun a=>if a=i then bd else g' a)=gg at L
      refine aH (fun O S'=>∃j:Nat,j<=n-(k+1)/\O 3=aD (n-k) (n-k) (cM H k)/\O 4=.int .i64 (det k H)/\O 5=.int .i64 (det (k+1) H)/\O 6=.sl 1 bc 0 (n-(k+1))/\O 7=.int .i64 i/\O 8=aV (n-k) (cM H k (i+1))/\O 31=.int .i64 ((n-(k+1):Nat):Int)/\O 32=.int .i64 i/\O 47=.int .i64 ((n-(k+1):Nat):Int)/\O 48=.int .i64 j/\ft 29 2 1 S S' bc gg (n-(k+1)) (n-(k+1)) (i+1) (fun a c=>.int .i64 (if a=i/\j<=c then 0 else cM H (k+1) a c))) (fun O S=>n-ca (O 48)) ?_ ?_
      .simp -dsimp only[go_sem,aD,aV,p,w,E,F,l,o];refine⟨0,om,rfl,L.congr fun a c _ _=>?_⟩
       by_cases e:a=i
       .simp[e]
       .simp[e]
      .clear p w E F l o u L G W hgg;rintro O S' ⟨j,hj,p,w,E,F,e7,e8,l,o,M,N,u⟩;by_cases P:j<n-(k+1)
       .have X:j+1<n-k:=om
        obtain⟨g4,G,W⟩:=id u.outer;obtain⟨g5,Y,v5⟩:=id (u.row i om);have x4:g4 i=.sl 1 (gg i) 0 (n-(k+1)):=(W i v).trans (ai om);have b1:=y.num (i:=i+1) (j:=j+1) ⟨d0,d2⟩ q om om;have b2:=y.num (i:=i+1) (j:=0) ⟨d0,d2⟩ q om om;have b3:=y.num (i:=0) (j:=j+1) ⟨d0,d2⟩ q om om;have hs2:2*((cM H k (i+1) 0).natAbs:Int)<=det (k+1) H:=by
         have h3:=K (i+1) om om;omega
        have hstep:=i9 D.ne i j;rw[c8]at hstep;have p1:=kH (A:=65536) (B:=24696061952) (om:-65536<=det (k+1) H/\det (k+1) H<=65536) b1
        have p2:=kH (A:=65536) (B:=24696061952) (om:-65536<=cM H k (i+1) 0/\cM H k (i+1) 0<=65536) b3
        have q1:IntKind.i64.wrap (det (k+1) H*cM H k (i+1) (j+1))=det (k+1) H*cM H k (i+1) (j+1):=i64_in om om;have q2:IntKind.i64.wrap (cM H k (i+1) 0*cM H k 0 (j+1))=cM H k (i+1) 0*cM H k 0 (j+1):=i64_in om om;have q3:IntKind.i64.wrap (det (k+1) H*cM H k (i+1) (j+1)-cM H k (i+1) 0*cM H k 0 (j+1))=det k H*cM H (k+1) i j:=by rw[<-hstep];exact i64_in om om
        have b4:=z.num (i:=i) (j:=j) ⟨d1,d3⟩ q om om;have q4:oZ (det k H*cM H (k+1) i j) (det k H)=cM H (k+1) i j:=NB _ om;have q5:IntKind.i64.wrap (cM H (k+1) i j)=cM H (k+1) i j:=i64_in om om;have q6:¬(det k H=0):=om
        have hjn:j+1<n:=om
        have hin:i+1<n:=om
        have hpn:0<n:=om
        have hpnz:(0:Int)<(n:Int):=om
        simp -dsimp only[go_sem,aD,aV,p,w,E,F,l,o,M,N,P,aT (om:i<1000000)]
        refine bF 27 kr ?_
        simp -dsimp only[go_sem,aa,aD,aV,p,w,E,F,e7,e8,l,o,M,N,v,P,X,t,aT (om:j<1000000),G,x4,Y,q1,q2,q3,q4,q5,q6,ca]
        refine⟨⟨j+1,om,rfl,(u.put dc (om:i<i+1) Y j (.int .i64 (cM H (k+1) i j))).congr fun a c _ _=>?_⟩,om⟩
        by_cases e:a=i/\c=j
        .obtain⟨rfl,rfl⟩:=e;rw[ai ⟨rfl,rfl⟩,af om]
        .rw[af e];congr 1;by_cases e2:a=i/\j<=c
         .rw[ai e2,ai om]
         .rw[af e2,af om]
       .simp -dsimp only[go_sem,aD,aV,p,w,E,F,l,o,M,N,P,aT (om:i<1000000),ca]
        exact⟨⟨i+1,om,rfl,gg,u.congr fun a c _ hc=>by rw[af om]⟩,om⟩
     .obtain rfl:i=n-(k+1):=om
      have hN:=u.imat (A:=cM H (k+1)) (fun _ _ _ _=>rfl);obtain⟨g4,G,W⟩:=id hN.1.outer;obtain⟨g5,Y,v5⟩:=id (hN.1.row 0 om);have x4:g4 0=.sl 1 (g' 0) 0 (n-(k+1)):=W 0 om;have x5:g5 0=.int .i64 (det (k+2) H):=(v5 0 om).trans (by simp only[c8])
      have Z:0<n-(k+1):=om
      have hqz:(0:Int)<((n-(k+1):Nat):Int):=om
      have hle:ij H (k+1)↔3*(det (k+1) H*det (k+1) H)<=4*(det k H*det (k+2) H+cM H k 1 0*cM H k 1 0):=by
       unfold ij kt;rw[(om:k+1-1=k),(om:k+1-k=1),show k+1+1=k+2 from rfl]
      have hs2:2*((cM H k 1 0).natAbs:Int)<=det (k+1) H:=by
       have h3:=K 1 om om;omega
      have d4:=z.num (i:=0) (j:=0) ⟨d1,d3⟩ q om om;rw[c8,show k+1+1=k+2 from rfl]at d4;have p1:=kH (A:=65536) (B:=24696061952) (om:-65536<=det k H/\det k H<=65536) d4
      have p2:=kH (A:=65536) (B:=65536) (om:-65536<=cM H k 1 0/\cM H k 1 0<=65536) (om:-65536<=cM H k 1 0/\cM H k 1 0<=65536)
      have p3:=kH (A:=65536) (B:=65536) (om:-65536<=det (k+1) H/\det (k+1) H<=65536) (om:-65536<=det (k+1) H/\det (k+1) H<=65536)
      have q1:IntKind.i64.wrap (det k H*det (k+2) H)=det k H*det (k+2) H:=i64_in om om;have q2:IntKind.i64.wrap (cM H k 1 0*cM H k 1 0)=cM H k 1 0*cM H k 1 0:=i64_in om om;have q3:IntKind.i64.wrap (det k H*det (k+2) H+cM H k 1 0*cM H k 1 0)=det k H*det (k+2) H+cM H k 1 0*cM H k 1 0:=i64_in om om;have q4:IntKind.i64.wrap (4*(det k H*det (k+2) H+cM H k 1 0*cM H k 1 0))=4*(det k H*det (k+2) H+cM H k 1 0*cM H k 1 0):=i64_in om om;have q5:IntKind.i64.wrap (3*det (k+1) H)=3*det (k+1) H:=i64_in om om;have q6:IntKind.i64.wrap (3*det (k+1) H*det (k+1) H)=3*(det (k+1) H*det (k+1) H):=by rw[iT];exact i64_in om om
      have hk1n:k+1<n:=om
      have hpn:0<n:=om
      have hpnz:(0:Int)<(n:Int):=om
      have hln:1<n:=om
      have hlnz:(1:Int)<(n:Int):=om
      by_cases q7:4*(det k H*det (k+2) H+cM H k 1 0*cM H k 1 0)<3*(det (k+1) H*det (k+1) H)
      .simp -dsimp only[go_sem,aa,aD,aV,p,w,E,F,l,o,v,t,f,Z,hqz,G,x4,Y,x5,q1,q2,q3,q4,q5,q6,q7,show Int.toNat 1=1 from rfl];rw[T fun h=>by have:=hle.1 (h.rows.2 (k+1) om hk1n);omega]
       exact VR.mf rfl
      .simp -dsimp only[go_sem,aa,aD,aV,p,w,E,F,l,o,v,t,f,Z,hqz,G,x4,Y,x5,q1,q2,q3,q4,q5,q6,q7,show Int.toNat 1=1 from rfl];have hU1:=D.step J (hle.2 om);refine⟨⟨k+1,om,hU1,z,.sl 1 bc 0 (n-(k+1)),bO ⟨bc,g',rfl,hN.1⟩,rfl,rfl⟩,om⟩
   .obtain⟨g1,Q,R⟩:=id C.outer;obtain⟨g2,u2,v2⟩:=id (C.row 0 d);obtain⟨g3,u3,v3⟩:=id (C.row 1 U);have x1:g1 0=.sl 1 (g 0) 0 (n-k):=R 0 d;have x2:g2 0=.int .i64 (cM H k 0 0):=v2 0 d;have y1:g1 1=.sl 1 (g 1) 0 (n-k):=R 1 U;have y2:g3 0=.int .i64 (cM H k 1 0):=v3 0 d;simp -dsimp only[go_sem,aa,p,f,d,t,Q,u2,x1,x2,r];refine(pN (n-k) (cM H k) βk d om (fun i hi=>y.num ⟨d0,d2⟩ q om om) hβk).spec (fD.cons C.vr.va fD.nil) ?_
    cases βk with
    | false =>
     simp -dsimp only[go_sem,p,wsub];rw[T fun h=>by have:=hβk.2 (h.short I q hk);cases this]
     exact VR.mf rfl
    | true =>
    have J:=hβk.1 rfl;obtain⟨d1,d3,K⟩:=id J;rw[c8]at d1 d3 K;have z:=y.step D I J;simp -dsimp only[go_sem,p,wsub]
    repeat refine an ?_
    refine aG.intro fun bc fc=>?_;simp -dsimp only[go_sem];refine aH (fun O S'=>∃i:Nat,i<=n-(k+1)/\O 3=.sl 1 b 0 (n-k)/\O 4=.int .i64 (det k H)/\O 5=.int .i64 (det (k+1) H)/\O 6=.sl 1 bc 0 (n-(k+1))/\O 31=.int .i64 ((n-(k+1):Nat):Int)/\O 32=.int .i64 i/\∃g',ft 29 2 1 S S' bc g' (n-(k+1)) (n-(k+1)) i (fun a j=>.int .i64 (cM H (k+1) a j))) (fun O S=>n-ca (O 32)) ?_ ?_
    .simp -dsimp only[go_sem,p,w];exact⟨0,om,rfl,fun _=>0,ft.init fc (fun _ _=>rfl) _ _⟩
    .clear p w;rintro O S' ⟨i,hi,p,w,E,F,l,o,g',u⟩;by_cases v:i<n-(k+1)
     .have V:i+1<n-k:=om
      obtain⟨g1,Q,R⟩:=id (u.ext.has C.outer);have x1:g1 (i+1)=.sl 1 (g (i+1)) 0 (n-k):=R (i+1) V;have hbc:b≠bc:=bJ.fresh C.outer fc;obtain⟨g4,G,W⟩:=id u.outer;simp -dsimp only[go_sem,aa,p,w,E,F,l,o,v,V,Q,x1,aT (om:i<1000000),G]
      repeat refine an ?_
      refine aG.intro fun bd fd=>?_;have hdc:bc≠bd:=bJ.fresh u.outer fd;simp -dsimp only[go_sem,v,G,hdc];have L:=u.push dc fd G (fun _=>.int .i64 0)
      generalize hgg:(fun a=>if a=i then bd else g' a)=gg at L
      refine aH (fun O S'=>∃j:Nat,j<=n-(k+1)/\O 3=.sl 1 b 0 (n-k)/\O 4=.int .i64 (det k H)/\O 5=.int .i64 (det (k+1) H)/\O 6=.sl 1 bc 0 (n-(k+1))/\O 7=.int .i64 i/\O 8=.sl 1 (g (i+1)) 0 (n-k)/\O 31=.int .i64 ((n-(k+1):Nat):Int)/\O 32=.int .i64 i/\O 47=.int .i64 ((n-(k+1):Nat):Int)/\O 48=.int .i64 j/\ft 29 2 1 S S' bc gg (n-(k+1)) (n-(k+1)) (i+1) (fun a c=>.int .i64 (if a=i/\j<=c then 0 else cM H (k+1) a c))) (fun O S=>n-ca (O 48)) ?_ ?_
      .simp -dsimp only[go_sem,p,w,E,F,l,o];refine⟨0,om,rfl,L.congr fun a c _ _=>?_⟩
       by_cases e:a=i
       .simp[e]
       .simp[e]
      .clear p w E F l o u L G W hgg Q R x1;rintro O S' ⟨j,hj,p,w,E,F,e7,e8,l,o,M,N,u⟩;by_cases P:j<n-(k+1)
       .have X:j+1<n-k:=om
        obtain⟨g4,G,W⟩:=id u.outer;obtain⟨g5,Y,v5⟩:=id (u.row i om);have x4:g4 i=.sl 1 (gg i) 0 (n-(k+1)):=(W i v).trans (ai om);have b1:=y.num (i:=i+1) (j:=j+1) ⟨d0,d2⟩ q om om;have b2:=y.num (i:=i+1) (j:=0) ⟨d0,d2⟩ q om om;have b3:=y.num (i:=0) (j:=j+1) ⟨d0,d2⟩ q om om;have hs2:2*((cM H k (i+1) 0).natAbs:Int)<=det (k+1) H:=by
         have h3:=K (i+1) om om;omega
        have hstep:=i9 D.ne i j;rw[c8]at hstep;have p1:=kH (A:=65536) (B:=24696061952) (om:-65536<=det (k+1) H/\det (k+1) H<=65536) b1
        have p2:=kH (A:=65536) (B:=24696061952) (om:-65536<=cM H k (i+1) 0/\cM H k (i+1) 0<=65536) b3
        have q1:IntKind.i64.wrap (det (k+1) H*cM H k (i+1) (j+1))=det (k+1) H*cM H k (i+1) (j+1):=i64_in om om;have q2:IntKind.i64.wrap (cM H k (i+1) 0*cM H k 0 (j+1))=cM H k (i+1) 0*cM H k 0 (j+1):=i64_in om om;have q3:IntKind.i64.wrap (det (k+1) H*cM H k (i+1) (j+1)-cM H k (i+1) 0*cM H k 0 (j+1))=det k H*cM H (k+1) i j:=by rw[<-hstep];exact i64_in om om
        have b4:=z.num (i:=i) (j:=j) ⟨d1,d3⟩ q om om;have q4:oZ (det k H*cM H (k+1) i j) (det k H)=cM H (k+1) i j:=NB _ om;have q5:IntKind.i64.wrap (cM H (k+1) i j)=cM H (k+1) i j:=i64_in om om;have q6:¬(det k H=0):=om
        obtain⟨g1,Q,R⟩:=id (u.ext.has C.outer);obtain⟨g2,u2,v2⟩:=id (u.ext.has (C.row 0 d));obtain⟨g3,u3,v3⟩:=id (u.ext.has (C.row (i+1) V));have x1:g1 0=.sl 1 (g 0) 0 (n-k):=R 0 d;have x2:g2 (j+1)=.int .i64 (cM H k 0 (j+1)):=v2 (j+1) X;have x3:g3 (j+1)=.int .i64 (cM H k (i+1) (j+1)):=v3 (j+1) X;have x5:g3 0=.int .i64 (cM H k (i+1) 0):=v3 0 d;simp -dsimp only[go_sem,p,w,E,F,l,o,M,N,P,aT (om:i<1000000)]
        refine bF 27 kr ?_
        simp -dsimp only[go_sem,aa,p,w,E,F,e7,e8,l,o,M,N,v,P,X,d,t,Q,u2,u3,x1,x2,x3,x5,aT (om:j<1000000),G,x4,Y,q1,q2,q3,q4,q5,q6,ca]
        refine⟨⟨j+1,om,rfl,(u.put dc (om:i<i+1) Y j (.int .i64 (cM H (k+1) i j))).congr fun a c _ _=>?_⟩,om⟩
        by_cases e:a=i/\c=j
        .obtain⟨rfl,rfl⟩:=e;rw[ai ⟨rfl,rfl⟩,af om]
        .rw[af e];congr 1;by_cases e2:a=i/\j<=c
         .rw[ai e2,ai om]
         .rw[af e2,af om]
       .simp -dsimp only[go_sem,p,w,E,F,l,o,M,N,P,aT (om:i<1000000),ca]
        exact⟨⟨i+1,om,rfl,gg,u.congr fun a c _ hc=>by rw[af om]⟩,om⟩
     .obtain rfl:i=n-(k+1):=om
      have hN:=u.imat (A:=cM H (k+1)) (fun _ _ _ _=>rfl);obtain⟨g4,G,W⟩:=id hN.1.outer;obtain⟨g5,Y,v5⟩:=id (hN.1.row 0 om);have x4:g4 0=.sl 1 (g' 0) 0 (n-(k+1)):=W 0 om;have x5:g5 0=.int .i64 (det (k+2) H):=(v5 0 om).trans (by simp only[c8])
      have Z:0<n-(k+1):=om
      have hqz:(0:Int)<((n-(k+1):Nat):Int):=om
      have hle:ij H (k+1)↔3*(det (k+1) H*det (k+1) H)<=4*(det k H*det (k+2) H+cM H k 1 0*cM H k 1 0):=by
       unfold ij kt;rw[(om:k+1-1=k),(om:k+1-k=1),show k+1+1=k+2 from rfl]
      have hs2:2*((cM H k 1 0).natAbs:Int)<=det (k+1) H:=by
       have h3:=K 1 om om;omega
      have d4:=z.num (i:=0) (j:=0) ⟨d1,d3⟩ q om om;rw[c8,show k+1+1=k+2 from rfl]at d4;have p1:=kH (A:=65536) (B:=24696061952) (om:-65536<=det k H/\det k H<=65536) d4
      have p2:=kH (A:=65536) (B:=65536) (om:-65536<=cM H k 1 0/\cM H k 1 0<=65536) (om:-65536<=cM H k 1 0/\cM H k 1 0<=65536)
      have p3:=kH (A:=65536) (B:=65536) (om:-65536<=det (k+1) H/\det (k+1) H<=65536) (om:-65536<=det (k+1) H/\det (k+1) H<=65536)
      have q1:IntKind.i64.wrap (det k H*det (k+2) H)=det k H*det (k+2) H:=i64_in om om;have q2:IntKind.i64.wrap (cM H k 1 0*cM H k 1 0)=cM H k 1 0*cM H k 1 0:=i64_in om om;have q3:IntKind.i64.wrap (det k H*det (k+2) H+cM H k 1 0*cM H k 1 0)=det k H*det (k+2) H+cM H k 1 0*cM H k 1 0:=i64_in om om;have q4:IntKind.i64.wrap (4*(det k H*det (k+2) H+cM H k 1 0*cM H k 1 0))=4*(det k H*det (k+2) H+cM H k 1 0*cM H k 1 0):=i64_in om om;have q5:IntKind.i64.wrap (3*det (k+1) H)=3*det (k+1) H:=i64_in om om;have q6:IntKind.i64.wrap (3*det (k+1) H*det (k+1) H)=3*(det (k+1) H*det (k+1) H):=by rw[iT];exact i64_in om om
      have hk1n:k+1<n:=om
      obtain⟨g1,Q,R⟩:=id (u.ext.has C.outer);obtain⟨g3,u3,v3⟩:=id (u.ext.has (C.row 1 U));have y1:g1 1=.sl 1 (g 1) 0 (n-k):=R 1 U;have y2:g3 0=.int .i64 (cM H k 1 0):=v3 0 d;by_cases q7:4*(det k H*det (k+2) H+cM H k 1 0*cM H k 1 0)<3*(det (k+1) H*det (k+1) H)
      .simp -dsimp only[go_sem,aa,p,w,E,F,l,o,v,d,t,U,f,Z,hqz,Q,u3,y1,y2,G,x4,Y,x5,q1,q2,q3,q4,q5,q6,q7,show Int.toNat 1=1 from rfl];rw[T fun h=>by have:=hle.1 (h.rows.2 (k+1) om hk1n);omega]
       exact VR.mf rfl
      .simp -dsimp only[go_sem,aa,p,w,E,F,l,o,v,d,t,U,f,Z,hqz,Q,u3,y1,y2,G,x4,Y,x5,q1,q2,q3,q4,q5,q6,q7,show Int.toNat 1=1 from rfl];have hU1:=D.step J (hle.2 om);refine⟨⟨k+1,om,hU1,z,.sl 1 bc 0 (n-(k+1)),bO ⟨bc,g',rfl,hN.1⟩,rfl,rfl⟩,om⟩
  .have f:¬((1:Int)<((n-k:Nat):Int)):=om
   have hkn:k+1=n:=om
   have b1:=b0;rw[hkn]at b1 r;by_cases z1:0<det n H
   .by_cases z2:det n H<=10000
    .have hβt:β=true:=hβ.2 ⟨I,D.redB hkn z1 z2⟩;rw[hβt];rcases hSt with rfl|⟨b,g,rfl,C⟩
     .simp -dsimp only[go_sem,aa,aD,aV,p,f,t,r,z1,z2];exact VR.mf rfl
     .obtain⟨g1,Q,R⟩:=C.outer;obtain⟨g2,u2,v2⟩:=C.row 0 om;have w1:=R 0 d;have w2:=v2 0 d;simp -dsimp only[go_sem,aa,p,f,d,t,Q,u2,w1,w2,r,z1,z2];exact VR.mf rfl
    .rw[T fun h=>z2 h.dt];rcases hSt with rfl|⟨b,g,rfl,C⟩
     .simp -dsimp only[go_sem,aa,aD,aV,p,f,t,r,z1,z2];exact VR.mf rfl
     .obtain⟨g1,Q,R⟩:=C.outer;obtain⟨g2,u2,v2⟩:=C.row 0 om;have w1:=R 0 d;have w2:=v2 0 d;simp -dsimp only[go_sem,aa,p,f,d,t,Q,u2,w1,w2,r,z1,z2];exact VR.mf rfl
   .rw[T fun h=>z1 (h.pos n (ae n))];rcases hSt with rfl|⟨b,g,rfl,C⟩
    .simp -dsimp only[go_sem,aa,aD,aV,p,f,t,r,z1];exact VR.mf rfl
    .obtain⟨g1,Q,R⟩:=C.outer;obtain⟨g2,u2,v2⟩:=C.row 0 om;have w1:=R 0 d;have w2:=v2 0 d;simp -dsimp only[go_sem,aa,p,f,d,t,Q,u2,w1,w2,r,z1];exact VR.mf rfl

end Go.Proofs.YtdobfmlmenaajaaGreatDoor
