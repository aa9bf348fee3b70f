/-
  Lemmas for NeighbourVerify.
-/
import Derived.Test.YtdobfmlmenaajaaGreatDoorV32
namespace Go.Proofs.YtdobfmlmenaajaaGreatDoor
open Go.RowKit Tryz
open _root_.Option renaming none→ab
set_option maxHeartbeats 6400000
set_option maxRecDepth 4096
set_option linter.all false
attribute [local go_sem] Nat.reduceAdd Nat.reduceEqDiff Nat.reduceLeDiff Nat.reduceLT reduceCtorEq Int.ofNat_lt decide_true decide_false Int.zero_le_ofNat
attribute [local go_sem ↓] reduceIte
variable{K:AV->St->Prop}{Q:AX->Tm->St->Prop}{β:Bool}{x:Int}{args:List AV}{P X b i j k m n:Nat}{g:Nat->AV}{a v:Nat->Int}{S:St}{O:Tm}{A B H:aH}
def Oi{a b:Int}:decide (0<lV a b)=decide (b<a):=by
 unfold lV;split
 .simp;omega
 .split<;>simp[*]
def yE(f:n<=16)(b:∀i j,i<n->j<n->nb (H i j) k)(c:∀i j,i<n->j<n->nb (B i j) k){i j:Nat}(d:i<n)(e:j<n):nb (kB n H B i j) (k+k+10):=Dw (fun t a=>(b i t d a).mul (c t j a e)) om n (ae n)
def Gw(n p:Nat)(H B G:aH)(h:1<=n)(Z:n<=5)(C:1<=p)(q:p<=17)(D:∀i j,i<n->j<n->(H i j).natAbs<=118098)(x:∀i j,i<n->j<n->(B i j).natAbs<=500)(K:∀i j,i<n->j<n->mm n (fun i j=>B j i) (mm n H B) i j/((p:Int)*p)=G i j):MF 44 [aC n n H,.int .i64 p,aC n n B] n n G:=by
 have r:∀i j,i<n->j<n->nb (H i j) 17:=fun i j d f=>by have:=D i j d f;unfold nb;omega
 have m:∀i j,i<n->j<n->nb (B i j) 17:=fun i j d f=>by have:=x i j d f;unfold nb;omega
 have E:∀i j,i<n->j<n->nb (kB n H B i j) 100:=fun i j d f=>(yE om r m d f).mono om;have L:∀i j,i<n->j<n->nb (kB n (fun i j=>B j i) (kB n H B) i j) 300:=fun i j d f=>(yE (k:=100) (H:=fun i j=>B j i) om (fun a b M N=>(m b a N M).mono om) E d f).mono om;have P:1<=(p:Int)*p/\(p:Int)*p<=289:=by
  rw[<-bF];have a:=aV C C;have b:=aV q q;omega
 have Q:IntKind.i64.wrap ((p:Int)*p)=(p:Int)*p:=i64_in om om;refine MF.of (jI func44 ntmps44 results44 ?_);simp -dsimp only[go_sem,aa];refine(tc n n B h om h om (fun i j d f=>by have:=x i j d f;unfold ta;omega)).call ?_
 simp -dsimp only[go_sem,aa];refine(nN n n B 17 h om h om m om).pf.call ?_;simp -dsimp only[go_sem,aa];refine(tc n n H h om h om (fun i j d f=>by have:=D i j d f;unfold ta;omega)).call ?_
 simp -dsimp only[go_sem,aa];refine(tc n n B h om h om (fun i j d f=>by have:=x i j d f;unfold ta;omega)).call ?_
 simp -dsimp only[go_sem,aa];refine(kJ n n n H B 17 h om h om h om r m om).pf.call ?_;simp -dsimp only[go_sem,aa];refine(kJ n n n (fun i j=>B j i) (kB n H B) 100 h om h om h om (fun i j d f=>(m j i f d).mono om) E om).pf.call ?_;simp -dsimp only[go_sem,aa,aC];refine(vk _ n n om om).mono ?_;rintro _ S1 ⟨b,g,rfl,l⟩;have l:=l.1;generalize R:kB n (fun i j=>B j i) (kB n H B)=A at *;have y:∀i j,i<n->j<n->A i j/((p:Int)*p)=G i j:=fun i j d f=>by rw[<-R];exact K i j d f
 simp only[go_sem,aU];refine aI (fun O S=>∃i:Nat,i<=n/\dE S b g n n (pq i (fun _ _=>0) G)/\O 1=.int .i64 p/\O 9=aU n n A/\O 10=.sl 1 b 0 n/\O 32=.int .i64 n/\O 33=.int .i64 i) (fun O S=>n-co (O 33)) ?_ ?_
 .simp only[go_sem,aU];exact⟨0,om,by rw[lO];exact l,rfl⟩
 clear l;rintro O S ⟨i,d,l,F,I,s,t,u⟩;by_cases o:i<n
 .simp only[*,go_sem,aU];refine aI (fun O S=>∃j:Nat,j<=n/\dE S b g n n (fun a c=>if a=i then(if c<j then G a c else 0)else pq i (fun _ _=>0) G a c)/\O 1=.int .i64 p/\O 9=aU n n A/\O 10=.sl 1 b 0 n/\O 11=.int .i64 i/\O 32=.int .i64 n/\O 33=.int .i64 i/\O 37=.int .i64 n/\O 38=.int .i64 j) (fun O S=>n-co (O 38)) ?_ ?_
  .simp only[*,go_sem,aU];refine⟨0,om,l.congr fun a c _ _=>?_,rfl⟩
   by_cases e:a=i
   .subst e;simp[pq]
   .simp[e]
  clear F I s t u l;rintro O S ⟨j,f,l,F,I,s,T,t,u,U,V⟩;by_cases v:j<n
  .obtain⟨W,u1,X⟩:=l.outer;obtain⟨g2,Y,v2⟩:=l.row i o;have x1:W i=.sl 2 (g i) 0 n:=X i o;simp -dsimp only[*,go_sem,aU,bC];refine bD 18 kr ?_
   simp only[*,go_sem,aa,aU,bC];refine⟨_,(gQ (a:=(p:Int)*p) om om).pure',_,(oM (k:=300) (L i j o v) (show nb ((p:Int)*p) 300 by exact nb.mono (k:=9) (by unfold nb;omega) om) om om).pure',?_⟩
   rw[y i j o v];simp only[go_sem,aS (om:j<1000000),co]
   refine⟨⟨j+1,om,(l.set (j:=j) (z:=G i j) o Y).congr fun a c _ _=>?_,rfl⟩,om⟩
   simp only[eQ];by_cases e:a=i
   .subst e;by_cases J:c=j
    .subst J;simp
    .simp only[J,Q8,aM,aK];by_cases w:c<j
     .rw[ah w,ah om]
     .rw[af w,af om]
   .simp[e]
  .simp only[*,go_sem,aU,aS (om:i<1000000),co]
   refine⟨⟨i+1,om,l.congr fun a c _ hc=>?_,rfl⟩,om⟩
   by_cases e:a=i
   .subst e;simp[pq];omega
   .simp only[e,aM,pq];by_cases w:a<i
    .rw[ah w,ah om]
    .rw[af w,af om]
 .obtain rfl:i=n:=om
  simp only[*,go_sem];exact⟨b,rfl,g,nJ l⟩
def yg(S:St)(d n p:Nat)(H:aH)(v:Nat->Nat)(A:ge n H)(K:jb (det n H) p)(q:p∈cw)(L:ll n p H v)(C:n<=4)(M:bG S d 2 1 n (fun k=>.int .i64 ((v k:Nat):Int))) :
  cZ 15 [aC n n H,.int .i64 p,.sl 1 d 0 n] S (fun r S'=>∃b g B,r=.tup [.sl 1 b 0 n,.int .i64 0]/\tN n p H v B/\dZ S' b g n n (qU n p H B)/\fM S S'):=by
 have D:=A.one;have J:=p6 q;refine jI func15 ntmps15 results15 ?_;simp -dsimp only[go_sem,aa];refine(EA S d n p H v A K q L C M).mono ?_;rintro _ S1 ⟨b,g,B,rfl,E,N,P⟩;simp -dsimp only[go_sem,aa,bU];have s:∀i j,i<n->j<n->(qU n p H B i j).natAbs<=853258050:=fun i j m o=>E.gent A q m o;refine(Gw n p H B (qU n p H B) D om om om (fun i j m o=>by have:=A.ent i j m o;omega) (fun i j m o=>by have:=E.ent q m o;have:=RR q;omega) (fun i j m o=>by
  rw[<-ou];unfold qU;rw[ah ⟨m,o⟩])).pf.spec (fH.three (VA.refl _ _) (VA.refl _ _) N.vr.va) ?_
 generalize R:qU n p H B=Q at *;simp only[go_sem,aU];refine aI (fun O S'=>∃i:Nat,i<=n/\fM S1 S'/\O 10=aU n n Q/\O 31=aU n n Q/\O 32=.int .i64 n/\O 33=.int .i64 i) (fun O S=>n-co (O 33)) ?_ ?_
 .simp only[go_sem,aU];exact⟨0,om,fM.refl _,rfl⟩
 rintro O S2 ⟨i,m,c,e,f,h,l⟩;by_cases F:i<n
 .simp only[*,go_sem,aa,aU];refine aI (fun O S'=>∃j:Nat,j<=n/\fM S1 S'/\O 10=aU n n Q/\O 31=aU n n Q/\O 32=.int .i64 n/\O 33=.int .i64 i/\O 37=bC n (Q i)/\O 38=.int .i64 n/\O 39=.int .i64 j) (fun O S=>n-co (O 39)) ?_ ?_
  .simp only[go_sem,aU,bC,e,f,h,l];exact⟨0,om,c,rfl⟩
  clear c e f h l;rintro O S2 ⟨j,o,c,e,f,h,l,t,u,w⟩;by_cases x:j<n
  .have W:=s i j F x;have G:nb (Q i j) 64:=by unfold nb;omega
   simp -dsimp only[*,go_sem,aU,bC];refine aG.intro fun T y=>?_;simp -dsimp only[go_sem,aa,bR];have I:=(c.upd (c.none y) ⟨50,2,1,fun _=>.big 0⟩).upd (c.none y) ⟨50,2,1,bR (fun _=>.big 0) 0 (.big (Q i j))⟩;refine(uh G om).call ?_;simp -dsimp only[go_sem,aa,bR];refine(gQ (a:=4611686018427387904) om om).call ?_;simp -dsimp only[go_sem,aa,bR];refine(nI (k:=64) (a:=((Q i j).natAbs:Int)) (b:=4611686018427387904) (by unfold nb at *;omega) (by unfold nb;omega) om).call ?_
   simp only[go_sem,aU,bC,e,f,h,l,t,u,w,Oi,(om:¬((4611686018427387904:Int)<((Q i j).natAbs:Int))),aS (om:j<1000000),co]
   exact⟨⟨j+1,om,I,rfl⟩,om⟩
  .simp only[go_sem,aU,bC,e,f,h,l,t,u,w,x,aS (om:i<1000000),co]
   exact⟨⟨i+1,om,c,rfl⟩,om⟩
 .simp -dsimp only[*,go_sem,aa,aU];refine(su n n Q D om D om (fun i j m o=>by have:=s i j m o;unfold iT;omega) _ _ (cY _ _)).mono ?_
  rintro _ S3 ⟨U,V,rfl,z⟩;simp only[go_sem];exact⟨U,rfl,V,B,E,by rw[R];exact z.1,(P.trans c).trans z.2.1⟩

def BI(n m k:Nat)(A:aH)(i j:Nat)(b:i<m)(c:j<n)(a:nb (A j i) k)(d:k<=1000000):PF 156 [.int .i64 i,.int .i64 j,.pat 1 (aU n m A)] (.big (A j i)):=by
 refine jo func156 ntmps156 results156 ?_;simp -dsimp only[go_sem];refine aG.intro fun bc fc=>?_
 try simp -dsimp only[*,go_sem,aU,bC]
 refine(sd a om).call ?_;simp only[go_sem,aa];exact VR.mf rfl
def AW(n m k:Nat)(A:aH)(f:1<=n)(a:n<=16)(h:1<=m)(c:m<=16)(l:∀i j,i<n->j<m->nb (A i j) k)(o:k<=1000000):CQ 94 [aU n m A] m n (fun i j=>A j i):=by
 refine CQ.of ?_;refine jI func94 ntmps94 results94 ?_;simp -dsimp only[go_sem,aa,aU,bC];refine aG.intro fun bc fc=>?_
 try simp -dsimp only[go_sem]
 refine(lz n m A f a h c).call ?_;simp -dsimp only[go_sem,aa];refine(rJ m n 156 [.pat 1 (aU n m A)] (fun i j=>A j i) om c a (fun i j d e=>BI n m k A i j d e (l j i e d) o) _ _ (fH.fn1 (fH.one (VA.ptr (en.new rfl) (VA.refl _ _))))).mono ?_;rintro _ S1 ⟨b,g,rfl,p⟩;simp only[go_sem];exact⟨b,rfl,g,p.1⟩
def c8.appx{t e es:Nat}{S0 S3:St}{x y v:AV}(l:dY t=some e)(m:(gM e).isSome=true)(f:es=cg e)(a:fM S S3)(h:c8 e es S0 S x j g)(n:j<1000000)(o:eO es v)
  (p:∃b gb ty,y=.sl es b 0 1/\S3 b=some ⟨ty,es,1,gb⟩/\gb 0=v/\S b=ab)
  (q:∀c S',c8 e es S0 S' (.sl es c 0 (j+1)) (j+1) (fun i=>if i=j then v else g i)->(∀d X,S d=some X->¬eC x d->S' d=some X)->(eC x c∨S c=ab)->K (.sl es c 0 (j+1)) S'):gP t t x y S3 K:=by
 obtain⟨b,gb,ty,rfl,r,s,u⟩:=p;have w:c8 e es S0 S3 x j g:=h.keep (x:=.nil) (h.1.trans a) (fun d X k _=>a d X k) (fun d _=>by rintro⟨_,_,_,e⟩;cases e)
 refine c8.app l m f w n o (bQ ⟨b,gb,ty,rfl,r,s,fun z=>h.fresh u b z rfl⟩) fun c S' A B C=>q c S' A (fun d X k D=>B d X (a d X k) D) (C.imp id fun h=>a.none h)
def ww(S:St)(d n p:Nat)(H:aH)(v:Nat->Nat)(Y:ge n H)(hg:jb (det n H) p)(hp:p∈cw)(hL:ll n p H v)(hd:bG S d 2 1 n (fun k=>.int .i64 ((v k:Nat):Int)))(hG:lm S) :
  cZ 41 [aC n n H,.int .i64 p,.sl 1 d 0 n] S (fun r S'=>∃b c g B Q,r=.tup [.sl 1 b 0 n,.sl 1 c 0 n,.int .i64 0]/\sH n p H v B/\(∀i j,i<n->j<n->mm n (mm n (fun i j=>B j i) H) B i j=p*p*Q i j/\(Q i j).natAbs<=246591576450)/\dE S' c g n n Q/\fM S S'):=by
 have G:=Y.one;have hn:=Y.five;have s:3<=p/\p<=17:=by
  have hp':=hp;simp only[cw,ed,aR,jz]at hp';omega
 have hpp:(p:Int)*p<=289/\9<=(p:Int)*p:=by
  rw[<-bF];have a:=aV s.2 s.2;have b:=aV s.1 s.1;omega
 have wpp:IntKind.i64.wrap ((p:Int)*p)=(p:Int)*p:=i64_in om om;refine jI func41 ntmps41 results41 ?_;simp -dsimp only[go_sem,aa];refine(D4 S d n p H v Y hg hp hL hd hG).mono ?_;rintro _ S1 ⟨b,g,B,rfl,hB,hM1,hE1⟩;simp -dsimp only[go_sem,aa,bU];refine(po n n H G om G om (fun i j m o=>by have:=Y.ent i j m o;omega) S1 _ (cY _ _)).mono ?_
 rintro _ S2 ⟨bf,gf,rfl,hf⟩;have Z:=hM1.ext hf.2.1;have I:∀i j,i<n->j<n->nb (B i j) 9:=fun i j m o=>by have:=hB.ent hp m o;unfold nb;omega
 have hHn:∀i j,i<n->j<n->nb (H i j) 17:=fun i j m o=>Y.ent.nb m o;simp -dsimp only[go_sem,aa];refine(AW n n 9 B G om G om I om S2 _ (fH.one Z.vr.va)).mono ?_;rintro _ S3 ⟨bt,gt,rfl,ht⟩;have hM3:=Z.ext ht.2.1;have hf3:=hf.1.ext ht.2.1;simp -dsimp only[go_sem,aa];refine(vE n n n 17 (fun i j=>B j i) H G om G om G om (fun i j m o=>(I j i o m).mono om) hHn om S3 _ (fH.two ht.1.vr.va hf3.vr.va)).mono ?_;rintro _ S4 ⟨b1,g1,rfl,J⟩;have hM4:=hM3.ext J.2.1;have hmn:∀i j,i<n->j<n->nb (mm n (fun i j=>B j i) H i j) 31:=fun i j m o=>(se (f:=fun k=>B k i*H k j) (k:=26) n fun k hk=>(I k i hk m).mul (hHn k j hk o)).mono om;simp -dsimp only[go_sem,aa];refine(vE n n n 31 (mm n (fun i j=>B j i) H) B G om G om G om hmn (fun i j m o=>(I i j m o).mono om) om S4 _ (fH.two J.1.vr.va hM4.vr.va)).mono ?_;rintro _ S5 ⟨bp,gp,rfl,hm2⟩;have M:=fun i j (m:i<n) (o:j<n)=>hB.gram_ent Y hp m o;have N:=fun i j (m:i<n) (o:j<n)=>hB.gram Y hp m o;have hP5:=hm2.1;have hE5:fM S S5:=(((hE1.trans hf.2.1).trans ht.2.1).trans J.2.1).trans hm2.2.1;generalize hPP:mm n (mm n (fun i j=>B j i) H) B=P at *;clear hm2 J hf ht hf3 hM4 hM3 Z hM1 hmn;simp -dsimp only[go_sem,aa,wpp];refine(ld (a:=(p:Int)*p) om om).call ?_;simp -dsimp only[go_sem];refine aG.intro fun l f15=>?_;simp only[go_sem,aa];have hV6:en ((S5.upd l ⟨50,2,1,fun _=>.big 0⟩).upd l ⟨50,2,1,bR (fun _=>.big 0) 0 (.big ((p:Int)*p))⟩) l 50 2 (.big ((p:Int)*p)):=en.set;have hE6:fM S5 ((S5.upd l ⟨50,2,1,fun _=>.big 0⟩).upd l ⟨50,2,1,bR (fun _=>.big 0) 0 (.big ((p:Int)*p))⟩):=((fM.refl S5).upd f15 _).upd f15 _;have hP6:=hP5.ext hE6;refine dA (fun O S=>∃(i:Nat) (x:AV) (g:Nat->Nat),i<=n/\O 6=.sl 1 b 0 n/\O 7=x/\O 15=.ptr 2 l 0/\O 62=.sl 1 bp 0 n/\O 63=.int .i64 n/\O 64=.int .i64 i /\
  c8 59 1 ((S5.upd l ⟨50,2,1,fun _=>.big 0⟩).upd l ⟨50,2,1,bR (fun _=>.big 0) 0 (.big ((p:Int)*p))⟩) S x i (fun a=>.sl 2 (g a) 0 n)/\(∀a,a<i->jx S (g a) n (fun j=>P a j/(p*p)))/\∀a c,a<i->c<i->g a=g c->a=c) (fun O S=>n-co (O 64)) ?_ ?_
 .simp only[go_sem];exact⟨0,om,rfl,fun _=>0,c8.nil (fM.refl _) _,fun a w=>om,fun a c w=>om⟩
 generalize (S5.upd l ⟨50,2,1,fun _=>AV.big 0⟩).upd l ⟨50,2,1,bR (fun _=>AV.big 0) 0 (AV.big ((p:Int)*p))⟩=S6 at *;rintro Q' hQ' O S ⟨i,x,g,m,e6,e7,K,A,C,D,q,R,hI⟩;by_cases t:i<n
 .have hP:=hP6.ext q.1;obtain⟨g1,u1,v1⟩:=id hP.outer;have x1:g1 i=.sl 2 (gp i) 0 n:=v1 i t;simp only[go_sem,aa,A,C,D,t,u1,x1];refine dA (fun O S'=>∃(j:Nat) (y:AV),j<=n/\O 6=.sl 1 b 0 n/\O 7=x/\O 15=.ptr 2 l 0/\O 18=y/\O 62=.sl 1 bp 0 n/\O 63=.int .i64 n/\O 64=.int .i64 i/\O 68=.sl 2 (gp i) 0 n/\O 69=.int .i64 n/\O 70=.int .i64 j /\
   c8 59 1 S6 S' x i (fun a=>.sl 2 (g a) 0 n)/\(∀a,a<i->jx S' (g a) n (fun j=>P a j/(p*p))/\¬eC y (g a))/\c8 50 2 S6 S' y j (fun c=>.big (P i c/(p*p)))/\∀d,eC x d->¬eC y d) (fun O S=>n-co (O 70)) ?_ ?_
  .simp only[go_sem,e6,e7,K,A,C,D];exact⟨0,om,rfl,q,fun a w=>⟨R a w,by rintro⟨_,_,_,e⟩;cases e⟩,c8.nil q.1 _,fun d _=>by rintro⟨_,_,_,e⟩;cases e⟩
  clear e6 e7 K A C D q R hP u1 v1 x1;rintro Q2 hQ2 O S' ⟨j,y,o,e6,e7,K,e18,A,C,D,e68,e69,e70,q,R,hY,hXY⟩;by_cases E:j<n
  .have hP:=hP6.ext q.1;obtain⟨g1,u1,v1⟩:=id (hP.row i t);have x1:g1 j=.big (P i j):=v1 j E;have hV:=hV6.ext q.1;have hb1:=M i j t E;obtain⟨z,hz⟩:=N i j t E;have hq:P i j/((p:Int)*p)=z:=by rw[hz,di _ om]
   have hzb:z.natAbs<=246591576450:=by
    rw[<-hq];exact a9 (JY om) hb1
   simp -dsimp only[go_sem,aa,e68,e69,e70,E,u1];refine aG.intro fun b20 f20=>?_;obtain⟨g2,u2,v2⟩:=(id hV.get);have n20:l≠b20:=hV.fresh f20;simp -dsimp only[go_sem,aa,K,x1,n20,u2,v2,fE];refine(qx (a:=P i j) (b:=(p:Int)*p) (k:=64) (by unfold nb;omega) (by unfold nb;omega) om om).call ?_
   rw[hq];simp -dsimp only[go_sem];refine aG.intro fun b21 f21=>?_;have n21_20:=(ag f21).1
   try simp -dsimp only[go_sem]
   refine aG.intro fun b22 f22=>?_;have n22_21:=(ag f22).1;have n22_20:=(ag (ag f22).2).1
   try simp -dsimp only[go_sem,nn n22_21]
   refine(uJ (a:=z) (by unfold iT;omega)).call ?_
   simp -dsimp only[go_sem,aa,e18,aj n22_21,(om:¬(z < -4611686018427387904)),(om:¬((4611686018427387904:Int)<z)),fE]
   refine aG.intro fun b98 u=>?_;have n98_22:=(ag u).1;have n98_21:=(ag (ag u).2).1;have n98_22:=(ag (ag (ag u).2).2).1;have n98_21:=(ag (ag (ag (ag u).2).2).2).1;have n98_20:=(ag (ag (ag (ag (ag u).2).2).2).2).1
   try simp -dsimp only[go_sem,e18]
   have T:S' b21=ab:=by simpa only[aO n21_20]using f21
   have U:S' b22=ab:=by simpa only[aO n22_21,aO n22_20]using f22
   have V:S' b98=ab:=by simpa only[aO n98_22,aO n98_21,aO n98_20]using u
   refine c8.appx rfl rfl rfl ((((((((fM.refl S').upd f20 _).upd f20 _).upd T _).upd U _).upd T _).upd U _).upd V _) hY om (show eO 2 (.big z)from trivial) ⟨_,_,_,rfl,cp,rfl,V⟩ ?_;intro c S2 hY' F L;simp only[*,go_sem,aS (om:j<1000000),co]
   refine⟨⟨j+1,om,rfl,q.keep hY'.1 F hXY,fun a w=>?_,hY'.congr fun a w=>?_,fun d hd he=>?_⟩,om⟩
   .obtain⟨r1,r2⟩:=R a w;refine⟨r1.via fun X q=>F _ _ q r2,fun hb=>?_⟩;rw[eH]at hb;rw[<-hb]at L;rcases L with h|h
    .exact r2 h
    .exact bG.fresh r1 h rfl
   .by_cases e:a=j
    .subst e;rw[ah rfl,hq]
    .rw[af e]
   .rw[eH]at he;subst he;rcases L with h|h
    .exact hXY d hd h
    .exact q.fresh h d hd rfl
  .obtain rfl:j=n:=om
   rcases hY.2 with⟨h0,_⟩|⟨c,_,rfl,hC⟩
   .omega
   simp only[go_sem,aa,e68,e69,e70,E];rw[hQ2];simp -dsimp only[go_sem,e7,e18];refine aG.intro fun b103 W=>?_
   try simp -dsimp only[go_sem,e7]
   refine c8.appx rfl rfl rfl ((fM.refl S').upd W _) q om (show eO 1 (.sl 2 c 0 j)from trivial) ⟨_,_,_,rfl,cp,rfl,W⟩ ?_;intro d S2 hX' F L;have hxc:¬eC x c:=fun h=>hXY c h (eH.2 rfl);simp only[*,go_sem,aS (om:i<1000000),co]
   refine⟨⟨i+1,om,rfl,fun a=>if a=i then c else g a,hX'.congr fun a w=>by grind,fun a w=>?_,fun a d w hd e=>?_⟩,om⟩
   .by_cases e:a=i
    .subst e;simp only[aK];exact hC.via fun X q=>F _ _ q hxc
    .simp only[e,aM];obtain⟨gg,hgg,hg2⟩:=(R a om).1;exact⟨gg,F _ _ hgg (q.other hgg om),hg2⟩
   .have k1:=fun a w=>(R a w).2;simp only[eH]at k1
    grind
 have hin:i=n:=om
 rw[hin]at q R hI;rcases q.2 with⟨h0,_⟩|⟨c,_,rfl,hC⟩
 .omega
 simp only[go_sem,aa,A,C,D,t];rw[hQ'];simp only[*,go_sem];refine⟨b,c,rfl,g,B,hB,fun i j=>P i j/(p*p),fun i j m o=>⟨?_,?_⟩,⟨hC,R,hI⟩,(hE5.trans hE6).trans q.1⟩
 .rw[hPP,gW (N i j m o)]
 .exact a9 (JY om) (M i j m o)

def IT(S:St)(d n p:Nat)(H:aH)(v:Nat->Int)(b:ge n H)(g:jb (det n H) p)(e:p∈cw)(h:¬oF n p H v)(i:bG S d 2 1 n (fun k=>.int .i64 (v k)))(j:lm S) :
  cZ 121 [aC n n H,.int .i64 p,.sl 1 d 0 n] S (fun r S'=>r=.tup [.nil,.int .i64 26]/\fM S S'):=by
 have l:=b.one;have m:=b.five;have f:=p6 e;refine jI func121 ntmps121 results121 ?_;simp -dsimp only[go_sem,aa];refine(AC S n p H b g e j).mono ?_;rintro _ S1 ⟨rfl,a⟩;have c:=a.has i;simp -dsimp only[go_sem,aa,bU];refine(Ah n p H v false l om om om (by simpa using h)).spec (fH.three (VA.refl _ _) (VA.refl _ _) (ku.vr (show ku S1 d n v from c)).va) ?_
 simp only[go_sem,aa];exact a
def Ix(S:St)(d n p:Nat)(H:aH)(v:Nat->Int)(b:ge n H)(c:jb (det n H) p)(e:p∈cw)(f:¬oF n p H v)(g:bG S d 2 1 n (fun k=>.int .i64 (v k)))(h:lm S) :
  cZ 59 [aC n n H,.int .i64 p,.sl 1 d 0 n] S (fun r S'=>r=.tup [.nil,.int .i64 26]/\fM S S'):=by
 refine jI func59 ntmps59 results59 ?_;simp -dsimp only[go_sem,aa];refine(IT S d n p H v b c e f g h).mono ?_;rintro _ S1 ⟨rfl,a⟩;simp only[go_sem,aa,show((26:Int) != 0)=true from rfl];exact a
def z6(S:St)(d n p:Nat)(H:aH)(v:Nat->Int)(b:ge n H)(c:jb (det n H) p)(e:p∈cw)(f:¬oF n p H v)(g:bG S d 2 1 n (fun k=>.int .i64 (v k)))(h:lm S) :
  cZ 41 [aC n n H,.int .i64 p,.sl 1 d 0 n] S (fun r S'=>r=.tup [.nil,.nil,.int .i64 26]/\fM S S'):=by
 refine jI func41 ntmps41 results41 ?_;simp -dsimp only[go_sem,aa];refine(Ix S d n p H v b c e f g h).mono ?_;rintro _ S1 ⟨rfl,a⟩;simp only[go_sem,aa,show((26:Int) != 0)=true from rfl];exact a
def L7(S:St)(d n p:Nat)(H:aH)(v:Nat->Int)(b:ge n H)(c:jb (det n H) p)(e:p∈cw)(f:¬oF n p H v)(g:bG S d 2 1 n (fun k=>.int .i64 (v k)))(h:lm S) :
  cZ 25 [aC n n H,.int .i64 p,.sl 1 d 0 n] S (fun r S'=>r=.tup [.nil,.int .i64 26]/\fM S S'):=by
 refine jI func25 ntmps25 results25 ?_;simp -dsimp only[go_sem,aa];refine(z6 S d n p H v b c e f g h).mono ?_;rintro _ S1 ⟨rfl,a⟩;simp only[go_sem,aa,show((26:Int) != 0)=true from rfl];exact a
def L3(n p:Nat)(H:aH)(v:Nat->Int)(b:ge n H)(c:jb (det n H) p)(d:p∈cw)(e:¬oF n p H v) :
  PF 33 [aC n n H,.int .i64 p,aW n v] (.tup [.nil,.int .i64 26]):=by
 have f:=b.one;have g:=b.five;have a:=p6 d;refine jo func33 ntmps33 results33 ?_;simp -dsimp only[go_sem,aa];refine(CG n p H b c a.2).call ?_;simp -dsimp only[go_sem,aa,bU];refine(rn n p H v false om om om (by simpa using e)).call ?_
 simp only[go_sem];exact VR.mf rfl
def I8(n p:Nat)(H:aH)(v:Nat->Int)(a:ge n H)(b:jb (det n H) p)(c:p∈cw)(d:¬oF n p H v) :
  PF 24 [aC n n H,.int .i64 p,aW n v] (.tup [.nil,.int .i64 26]):=by
 refine jo func24 ntmps24 results24 ?_;simp -dsimp only[go_sem,aa];refine(L3 n p H v a b c d).call ?_;simp only[go_sem,aa,show((26:Int) != 0)=true from rfl];exact VR.mf rfl
def L8(n p:Nat)(H:aH)(v:Nat->Int)(a:ge n H)(b:jb (det n H) p)(c:p∈cw)(d:¬oF n p H v) :
  PF 15 [aC n n H,.int .i64 p,aW n v] (.tup [.nil,.int .i64 26]):=by
 refine jo func15 ntmps15 results15 ?_;simp -dsimp only[go_sem,aa];refine(I8 n p H v a b c d).call ?_;simp only[go_sem,aa,show((26:Int) != 0)=true from rfl];exact VR.mf rfl
def toN(v:Nat->Int):Nat->Nat:=fun i=>(v i).toNat
def oF.toN{p:Nat}(h:oF n p H v):ll n p H (YtdobfmlmenaajaaGreatDoor.toN v)/\∀i,i<n->v i=((YtdobfmlmenaajaaGreatDoor.toN v i:Nat):Int):=by
 obtain⟨b,c,d⟩:=h;unfold YtdobfmlmenaajaaGreatDoor.toN;refine⟨?_,fun i a=>by have:=b i a;omega⟩
 have e:∀i,i<n->((v i).toNat:Int)=v i:=fun i a=>by have:=b i a;omega
 have el:∀i,i<=n->iq (fun k=>(((v k).toNat:Nat):Int)) i=iq v i:=by
  intro i
  induction i with
  | zero=>intro _;rfl
  | succ i ih=>intro a;simp only[iq,ih om,e i om]
 refine⟨fun i a=>by have:=b i a;omega,by rw[el n (ae n)];exact c,?_⟩
 rw[<-d];congr 1;unfold fB;exact aB fun i a=>by
  dsimp only;rw[e i a,aB (g:=fun j=>H i j*v j) fun j f=>by rw[e j f]]

def Ma(n:Nat)(A:aH)(a:Nat)(b:1<=n)(c:n<=16)(d:∀i j,i<n->j<n->nb (A i j) a)(e:a<=10000000):PF 165 [aU n n A] (.tup [.big (det n A),.bool true]):=by
 refine jo func165 ntmps165 results165 ?_;simp -dsimp only[go_sem];refine aG.intro fun f g=>?_
 try simp -dsimp only[go_sem]
 refine(pI n A b c).call ?_;simp -dsimp only[go_sem,aa];refine(iu n A a b c d e).call ?_;simp only[go_sem,aa,bR];exact VR.tup (l:=[.big (det n A),.bool true]) (by simp[qZ])
def oX(n:Nat)(A:aH)(b:Nat)(β:Bool)(g:1<=n)(c:n<=16)(f:∀i j,i<n->j<n->nb (A i j) b)(o:b<=100000)(hβ:β=true↔det n A=1∨det n A=-1):PF 105 [aU n n A] (.bool β):=by
 have l:nb (det n A) (16*(b+10)+1):=(oq n A c f).mono (by have:=aD (b+10) c;omega)
 refine jo func105 ntmps105 results105 ?_;simp -dsimp only[go_sem,aa];refine(Ma n A b g c f om).call ?_;simp -dsimp only[go_sem];refine aG.intro fun p q=>?_
 try simp -dsimp only[go_sem,bR]
 refine(uh l om).call ?_;simp -dsimp only[go_sem,aa];refine(gQ (a:=1) om om).call ?_;simp -dsimp only[go_sem,aa];have d:nb ((det n A).natAbs:Int) (16*(b+10)+1):=by unfold nb at *;omega
 refine(nI d (nb.mono (k:=1) (by unfold nb;omega) om) om).call ?_
 by_cases e:((det n A).natAbs:Int)=1
 .rw[e,sj,hβ.2 om];simp only[go_sem,dw];exact VR.mf rfl
 .have m:(lV ((det n A).natAbs:Int) 1==0)=false:=by
   have:=DY e;simpa using this
  rw[dD hβ fun h=>om]
  simp only[go_sem,m];exact VR.mf rfl
def Ey(n m:Nat)(A B:aH)(k:Nat)(β:Bool)(y:1<=n)(z:n<=16)(C:1<=m)(D:m<=16)(F:∀i j,i<n->j<m->nb (A i j) k)(G:∀i j,i<n->j<m->nb (B i j) k)(H:k<=10000000)(hβ:β=true↔∀i j,i<n->j<m->A i j=B i j):PF 106 [aU n m A,aU n m B] (.bool β):=by
 refine jo func106 ntmps106 results106 ?_;simp -dsimp only[go_sem,aa];refine(og n m A y z C D).call ?_;simp -dsimp only[go_sem,aa];refine(og n m B y z C D).call ?_;simp only[go_sem,bU];refine dA (fun O S=>∃i:Nat,i<=n/\(∀a j,a<i->j<m->A a j=B a j)/\O 0=aU n m A/\O 1=aU n m B/\O 42=.int .i64 n/\O 43=.int .i64 i) (fun O S=>n-co (O 43)) ?_ ?_
 .simp only[go_sem,aU];exact⟨0,om,fun a j E=>om,rfl⟩
 rintro Q' q O S ⟨i,I,r,s,w,f,g⟩;by_cases c:i<n
 .simp only[go_sem,aU,bC,s,f,g,c];refine dA (fun O S=>∃j:Nat,j<=m/\(∀b,b<j->A i b=B i b)/\O 0=aU n m A/\O 1=aU n m B/\O 11=.int .i64 i/\O 42=.int .i64 n/\O 43=.int .i64 i/\O 50=.int .i64 m/\O 51=.int .i64 j) (fun O S=>m-co (O 51)) ?_ ?_
  .simp only[*,go_sem,aU,bC];exact⟨0,om,fun b t=>om,rfl⟩
  clear s w f g;clear O S;rintro Q2 u O S ⟨j,J,l,s,w,x,f,g,o,p⟩;by_cases d:j<m
  .simp -dsimp only[go_sem,aU,bC,o,p,d];refine bD 16 kr ?_
   simp only[go_sem,aa,aU,bC,s,w,x,f,g,o,p,c,d];refine⟨_,(nI (F i j c d) (G i j c d) om).pure',?_⟩;by_cases v:A i j=B i j
   .rw[v,sj];simp only[go_sem,bU,aS (om:j<1000000),co]
    refine⟨⟨j+1,om,fun b t=>?_,rfl⟩,om⟩
    by_cases e:b=j
    .rw[e];exact v
    .exact l b om
   .simp only[go_sem,DY v];rw[u];simp only[go_sem];rw[q];simp only[go_sem];rw[dD hβ fun h=>v (h i j c d)];exact VR.mf rfl
  .simp only[go_sem,o,p,d];rw[u];simp only[*,go_sem,aS (om:i<1000000),co]
   refine⟨⟨i+1,om,fun a b E t=>?_,rfl,rfl,rfl⟩,om⟩
   by_cases e:a=i
   .rw[e];exact l b om
   .exact r a b om t
 .simp only[go_sem,aa,s,f,g,c];rw[q];simp only[go_sem];rw[hβ.2 fun a b E t=>r a b om t];exact VR.mf rfl
def sY(n x:Nat)(s:n<=16)(t:x<n+1):PF 144 [.int .i64 ((n+1:Nat):Int),.int .i64 x] (aW n (fun i=>(skip x i:Nat))):=by
 refine jo func144 ntmps144 results144 ?_;simp only[go_sem];refine aI (fun O S=>∃(i:Nat) (y:AV),i<=n+1/\O 0=.int .i64 ((n+1:Nat):Int)/\O 1=.int .i64 x/\O 5=y/\O 6=.int .i64 i/\c8 3 1 St.none S y (if i<=x then i else i-1) (fun a=>.int .i64 ((skip x a:Nat):Int))) (fun O S=>n+1-co (O 6)) ?_ ?_
 .simp only[go_sem];exact⟨0,om,rfl,c8.nil (fM.noneS _) _⟩
 .rintro O S ⟨i,y,u,v,w,z,A,b⟩;by_cases m:i<n+1
  .by_cases f:i=x
   .subst f;simp only[*,go_sem,bU,aS (om:i<1000000),co]
    exact⟨⟨i+1,om,rfl,by rw[af om,eT];rwa [ah (ae i)]at b⟩,om⟩
   .simp -dsimp only[*,go_sem,show((i:Int) != (x:Int))=true by simp;omega]
    refine aG.intro fun o g=>?_;simp -dsimp only[*,go_sem];have d:=b.fresh g;have j:((skip x (if i<=x then i else i-1):Nat):Int)=i:=by unfold skip;split<;>split<;>omega
    refine c8.app3 (b.upd (by rfl) d _) (by split<;>omega) (show eO 1 (.int .i64 (i:Int)) by simp[eO]) (bQ ⟨_,_,_,rfl,cp,rfl,fun h=>d _ h rfl⟩) ?_
    intro c S2 k p q;simp only[*,go_sem,aS (om:i<1000000),co]
    refine⟨⟨i+1,om,rfl,?_⟩,om⟩
    have e:(if i+1<=x then i+1 else i+1-1)=(if i<=x then i else i-1)+1:=by split<;>split<;>omega
    rw[e];refine k.congr fun a r=>?_;by_cases l:a=(if i<=x then i else i-1)
    .rw[ah l,l,j]
    .rw[af l]
  .obtain rfl:i=n+1:=om
   rw[af om,eT]at b;simp only[*,go_sem];exact b.vr fun a r=>VR.mf rfl
def yn(m:Nat)(A:aH):aH:=fun i j=>nF (i+j)*det m (K8 A j i)
def Gd(a:i<m+1)(b:j<m+1):yn m A i j=ke (m+1) A i j:=by
 rw[AK om A b a,J6 m A j i b a,jY j i];rfl
def Kb(f:m+1<=8)(c:∀i j,i<m+1->j<m+1->nb (A i j) k){i j:Nat}(g:i<m+1)(h:j<m+1):nb (det m (K8 A j i)) (8*(k+10)+1) :=
 (oq m (K8 A j i) om fun a b d e=>c _ _ (lN d) (lN e)).mono (by have:=aD (k+10) (om:m<=8);omega)
def BV(m:Nat)(A:aH)(k:Nat)(F:1<=m)(U:m+1<=8)(M:∀i j,i<m+1->j<m+1->nb (A i j) k)(hk:k<=100000):PF 86 [aU (m+1) (m+1) A] (.tup [aU (m+1) (m+1) (ke (m+1) A),.bool true]):=by
 refine jo func86 ntmps86 results86 ?_;simp -dsimp only[go_sem,aa];refine(pI (m+1) A om om).call ?_;simp -dsimp only[go_sem,aa];refine(vk _ (m+1) (m+1) om om).mono ?_;rintro _ S1 ⟨b,g,rfl,d⟩;have d:=d.1;simp only[go_sem];refine dA (fun O S=>∃i:Nat,i<=m+1/\dE S b g (m+1) (m+1) (pq i (fun _ _=>0) (yn m A))/\O 0=aU (m+1) (m+1) A/\O 4=.int .i64 ((m+1:Nat):Int)/\O 6=.sl 1 b 0 (m+1)/\O 21=.int .i64 ((m+1:Nat):Int)/\O 22=.int .i64 i) (fun O S=>m+1-co (O 22)) ?_ ?_
 .simp only[go_sem];exact⟨0,om,by rw[lO];exact d,rfl⟩
 clear d;rintro Q1 G O S ⟨i,hi,d,v,w,x,q,r⟩;by_cases f:i<m+1
 .simp only[go_sem,x,q,r,f];refine dA (fun O S=>∃j:Nat,j<=m+1/\dE S b g (m+1) (m+1) (fun a c=>if a=i then(if c<j then yn m A a c else 0)else pq i (fun _ _=>0) (yn m A) a c)/\O 0=aU (m+1) (m+1) A/\O 4=.int .i64 ((m+1:Nat):Int)/\O 6=.sl 1 b 0 (m+1)/\O 7=.int .i64 i/\O 21=.int .i64 ((m+1:Nat):Int)/\O 22=.int .i64 i/\O 26=.int .i64 ((m+1:Nat):Int)/\O 27=.int .i64 j) (fun O S=>m+1-co (O 27)) ?_ ?_
  .simp only[*,go_sem];refine⟨0,om,d.congr fun a c _ _=>?_,rfl⟩
   by_cases e:a=i
   .subst e;simp[pq]
   .simp[e]
  clear v w x q r d;clear O S;rintro Q2 H O S ⟨j,hj,d,v,w,x,V,q,r,y,B⟩;by_cases s:j<m+1
  .have W:=Kb U M f s;simp -dsimp only[go_sem,aa,v,w,y,B,s];refine(sY m j om s).call ?_;simp -dsimp only[*,go_sem,aa];refine(sY m i om f).call ?_;simp -dsimp only[*,go_sem,aa];refine(wV (m+1) (m+1) m m A (skip j) (skip i) F om F om (fun a t=>lN t) (fun a t=>lN t)).pf.call ?_;simp -dsimp only[*,go_sem,aa];refine(iu m (fun a c=>A (skip j a) (skip i c)) k F om (fun a c t D=>M _ _ (lN t) (lN D)) om).call ?_;have I:det m (fun a c=>A (skip j a) (skip i c))=det m (K8 A j i):=rfl;rw[I];simp -dsimp only[go_sem];refine aG.intro fun N P=>?_
   try simp -dsimp only[go_sem,v,w,V]
   have wij:IntKind.i64.wrap ((i:Int)+(j:Int))=((i+j:Nat):Int):=by rw[<-eM];exact eF om om
   have n:b≠N:=bG.fresh d.outer P;have l:∀a,a<m+1->g a≠N:=fun a t=>bG.fresh (d.row a t) P;have X:Int.tmod ((i+j:Nat):Int) 2=(((i+j)%2:Nat):Int):=by rw[jC]<;>rfl
   have J:(if (i+j)%2=1 then-det m (K8 A j i)else det m (K8 A j i))=yn m A i j:=by
    unfold yn nF;by_cases e:(i+j)%2=1
    .rw[ah e,af om,Km]
    .rw[af e,ah om,dG]
   have h:∀z,z=yn m A i j->∀{S':St} {E:Nat->AV},dE S' b g (m+1) (m+1) (fun a c=>if a=i then(if c<j then yn m A a c else 0)else pq i (fun _ _=>0) (yn m A) a c)->S' (g i)=some ⟨50,2,m+1,E⟩->dE (S'.upd (g i) ⟨50,2,m+1,bR E j (.big z)⟩) b g (m+1) (m+1) (fun a c=>if a=i then(if c<j+1 then yn m A a c else 0)else pq i (fun _ _=>0) (yn m A) a c):=by
    intro z Y S' E K u;refine(K.set (j:=j) (z:=z) f u).congr fun a c _ _=>?_;simp only[eQ];by_cases e:a=i
    .subst e;by_cases Q:c=j
     .subst Q;simp[Y]
     .simp only[Q,Q8,aM,aK];by_cases C:c<j
      .rw[ah C,ah om]
      .rw[af C,af om]
    .simp[e]
   rw[<-J]at h;obtain⟨Z,u1,v1⟩:=id d.outer;obtain⟨E,R,v2⟩:=id (d.row i f);have x1:Z i=.sl 2 (g i) 0 (m+1):=v1 i f;have o:=l i f;by_cases p:(i+j)%2=1
   .have T:((((i+j)%2:Nat):Int)==1)=true:=by simp[p]
    rw[ah p]at h;simp -dsimp only[go_sem,wij,X,T,bR]
    repeat refine an ?_
    refine(t8 W om).call ?_;simp -dsimp only[go_sem,aa,bR];refine bD 7 kr ?_
    simp only[*,go_sem,aa,bR,aS (om:j<1000000),co]
    exact⟨⟨j+1,om,h _ rfl (((d.upd n l _).upd n l _).upd n l _) ((aO o).trans ((aO o).trans ((aO o).trans R))),rfl⟩,om⟩
   .have T:((((i+j)%2:Nat):Int)==1)=false:=by simp;omega
    rw[af p]at h;simp -dsimp only[*,go_sem]
    repeat refine an ?_
    refine bD 7 kr ?_
    simp only[*,go_sem,aa,bR,aS (om:j<1000000),co]
    exact⟨⟨j+1,om,h _ rfl ((d.upd n l _).upd n l _) ((aO o).trans ((aO o).trans R)),rfl⟩,om⟩
  .simp only[go_sem,aa,v,w,y,B,s];rw[H];simp only[*,go_sem,aS (om:i<1000000),co]
   refine⟨⟨i+1,om,d.congr fun a c _ D=>?_,rfl⟩,om⟩
   by_cases e:a=i
   .subst e;simp[pq];omega
   .simp only[e,aM,pq];by_cases C:a<i
    .rw[ah C,ah om]
    .rw[af C,af om]
 .have L:i=m+1:=om
  rw[L]at d;simp only[go_sem,x,q,r,f];rw[G];simp only[go_sem,x];exact VR.tup2 ((nJ d).congr fun a c t D=>Gd t D).vr (VR.mf rfl)

def Gn(n:Nat)(c:Int)(A:aH)(k:Nat)(K:1<=n)(U:n<=8)(L:nb c k)(H:∀i j,i<n->j<n->nb (A i j) k)(V:k<=1000000000):MF 114 [.big c,aU n n A] n n (fun i j=>c*A i j):=by
 refine MF.of (jI func114 ntmps114 results114 ?_);simp -dsimp only[go_sem,aa];refine aG.intro fun t W=>?_
 try simp -dsimp only[go_sem]
 refine(yY n n A k om K om H om _ _ (cY _ _)).mono ?_;rintro _ S1 ⟨b,g,rfl,p⟩;have q:en S1 t 50 2 (.big c):=⟨_,p.2.1 t _ cp,rfl⟩;have C:∀i,i<n->g i≠t:=fun i I e=>by have:=p.2.2.2 i I;rw[e,cp]at this;cases this
 have m:=p.1;clear p;simp only[go_sem];refine dA (fun O S=>∃i:Nat,i<=n/\dE S b g n n (pq i A (fun i j=>c*A i j))/\en S t 50 2 (.big c)/\O 2=.ptr 2 t 0/\O 5=.sl 1 b 0 n/\O 11=.int .i64 n/\O 12=.int .i64 i) (fun O S=>n-co (O 12)) ?_ ?_
 .simp only[go_sem];exact⟨0,om,by rw[lO];exact m,q,rfl⟩
 clear m q;rintro Q1 D O S ⟨i,I,m,q,r,s,h,l⟩;by_cases f:i<n
 .obtain⟨E,x,y⟩:=m.outer;have B:E i=.sl 2 (g i) 0 n:=y i f;simp only[go_sem,aa,s,h,l,f,x,B];refine dA (fun O S=>∃j:Nat,j<=n/\dE S b g n n (fun a d=>if a=i then(if d<j then c*A a d else A a d)else pq i A (fun i j=>c*A i j) a d)/\en S t 50 2 (.big c)/\O 2=.ptr 2 t 0/\O 5=.sl 1 b 0 n/\O 6=.int .i64 i/\O 11=.int .i64 n/\O 12=.int .i64 i/\O 19=.int .i64 n/\O 20=.int .i64 j) (fun O S=>n-co (O 20)) ?_ ?_
  .simp only[go_sem,r,s,h,l];refine⟨0,om,m.congr fun a d _ _=>?_,q,rfl⟩
   by_cases e:a=i
   .subst e;simp[pq]
   .simp[e]
  clear r s h l m q x y B;clear O S;rintro Q2 F O S ⟨j,X,m,q,r,s,M,h,l,u,v⟩;by_cases o:j<n
  .obtain⟨E,x,y⟩:=m.outer;obtain⟨N,J,P⟩:=m.row i f;obtain⟨Y,Q,R⟩:=id q;have B:E i=.sl 2 (g i) 0 n:=y i f;have T:N j=.big (A i j):=(P j o).trans sm
   simp -dsimp only[go_sem,u,v,o];refine bD 14 kr ?_
   simp only[go_sem,aa,r,s,M,h,l,u,v,f,o,x,B,J,T,Q,R];refine⟨_,(jl L (H i j f o) om).pure',?_⟩;simp only[go_sem,aS (om:j<1000000),co]
   refine⟨⟨j+1,om,(m.set (j:=j) (z:=c*A i j) f J).congr fun a d _ _=>?_,q.upd (aj (C i f)) _,rfl⟩,om⟩
   simp only[eQ];by_cases e:a=i
   .subst e;by_cases r:d=j
    .subst r;simp
    .simp only[r,Q8,aM,aK];by_cases w:d<j
     .rw[ah w,ah om]
     .rw[af w,af om]
   .simp[e]
  .simp only[go_sem,u,v,o];rw[F];simp only[go_sem,r,s,h,l,aS (om:i<1000000),co]
   refine⟨⟨i+1,om,m.congr fun a d _ Z=>?_,q,rfl⟩,om⟩
   by_cases e:a=i
   .subst e;simp[pq];omega
   .simp only[e,aM,pq];by_cases w:a<i
    .rw[ah w,ah om]
    .rw[af w,af om]
 .have G:i=n:=om
  rw[G]at m;simp only[go_sem,aa,s,h,l,f];rw[D];simp only[go_sem,s];exact⟨b,rfl,g,nJ m⟩
def BN(m:Nat)(U:aH)(k:Nat)(p:1<=m)(f:m+1<=8)(d:∀i j,i<m+1->j<m+1->nb (U i j) k)(q:k<=100000)(r:det (m+1) U*det (m+1) U=1):CQ 54 [aU (m+1) (m+1) U] (m+1) (m+1) (Lg (m+1) U):=by
 refine CQ.of (jI func54 ntmps54 results54 ?_);have a:=MT r;have c:∀i j,i<m+1->j<m+1->nb (ke (m+1) U i j) (8*(k+10)+1):=fun i j l n=>by
  have h:=Kb f d l n;rw[<-Gd l n];unfold yn nF nb at *;split
  .rw[dG];exact h
  .rw[Km,Mk];exact h
 have e:(fun i j=>det (m+1) U*ke (m+1) U i j)=Lg (m+1) U:=by
  funext i j;unfold Lg;rcases a with h|h
  .rw[ah h,h,dG]
  .rw[af om,h,Km]
 simp -dsimp only[go_sem,aa];refine(oX (m+1) U k true om om d om ⟨fun _=>a,fun _=>rfl⟩).call ?_;simp -dsimp only[go_sem,aa];refine(BV m U k p f d q).call ?_;simp -dsimp only[go_sem,aa];refine(iu (m+1) U k om om d om).call ?_;simp -dsimp only[go_sem,aa];refine(Gn (m+1) (det (m+1) U) (ke (m+1) U) (8*(k+10)+1) om om (nb.mono (k:=1) (by unfold nb;omega) om) c om _ _ (cY _ _)).mono ?_
 rintro _ S1 ⟨b,g,rfl,o⟩;rw[e]at o;simp only[go_sem];exact⟨b,rfl,g,o.1⟩
def BS(n:Nat)(R W Q:aH)(β:Bool)(c:1<=n)(A:n<=8)(q:∀i j,i<n->j<n->ta (R i j))(r:∀i j,i<n->j<n->ta (W i j))(s:∀i j,i<n->j<n->ta (Q i j))
  (hβ:β=true↔(det n W=1∨det n W=-1)/\∀i j,i<n->j<n->mm n (fun i j=>W j i) (mm n R W) i j=Q i j):PF 47 [aC n n R,aC n n W,aC n n Q] (.bool β):=by
 have l:∀z,ta z->nb z 64:=fun z h=>by unfold ta at h;unfold nb;omega
 have m:∀i j,i<n->j<n->nb (R i j) 64:=fun i j d f=>l _ (q i j d f);have g:∀i j,i<n->j<n->nb (W i j) 64:=fun i j d f=>l _ (r i j d f);have o:∀i j,i<n->j<n->nb (Q i j) 64:=fun i j d f=>l _ (s i j d f);have t:∀i j,i<n->j<n->nb (kB n R W i j) 300:=fun i j d f=>(yE om m g d f).mono om;have v:∀i j,i<n->j<n->nb (kB n (fun i j=>W j i) (kB n R W) i j) 1000:=fun i j d f=>(yE (k:=300) (H:=fun i j=>W j i) om (fun a b w x=>(g b a x w).mono om) t d f).mono om;obtain⟨βu,hβu⟩:=jB (det n W=1∨det n W=-1);obtain⟨βe,hβe⟩:=jB (∀i j,i<n->j<n->kB n (fun i j=>W j i) (kB n R W) i j=Q i j);refine jo func47 ntmps47 results47 ?_;simp -dsimp only[go_sem,aa];refine(tc n n W c om c om r).call ?_;simp -dsimp only[go_sem,aa];refine(nN n n W 64 c om c om g om).pf.call ?_;simp -dsimp only[go_sem,aa];refine(oX n W 64 βu c om g om hβu).call ?_
 cases βu with
 | false =>
  simp only[go_sem];rw[dD hβ fun h=>by have:=hβu.2 h.1;cases this]
  exact VR.mf rfl
 | true =>
 have y:=hβu.1 rfl;simp -dsimp only[go_sem,aa];refine(tc n n R c om c om q).call ?_;simp -dsimp only[go_sem,aa];refine(kJ n n n R W 64 c om c om c om m g om).pf.call ?_;simp -dsimp only[go_sem,aa];refine(kJ n n n (fun i j=>W j i) (kB n R W) 300 c om c om c om (fun i j d f=>(g j i f d).mono om) t om).pf.call ?_;simp -dsimp only[go_sem,aa];refine(tc n n Q c om c om s).call ?_;simp -dsimp only[go_sem,aa];refine(Ey n n _ Q 1000 βe c om c om v (fun i j d f=>(o i j d f).mono om) om hβe).call ?_;simp only[go_sem];have p:βe=β:=by
  cases βe with
  | true=>exact(hβ.2 ⟨y,hβe.1 rfl⟩).symm
  | false=>exact(dD hβ fun h=>by have:=hβe.2 h.2;cases this).symm
 rw[p];exact VR.mf rfl

def Mh(S:St)(b P:Nat):Prop:=bG S b 202 1 2 (fun j=>if j=0 then .int .u64 ((P/18446744073709551616:Nat):Int)else .int .u64 ((P%18446744073709551616:Nat):Int))
def Mh.put:Mh (S.upd b ⟨202,1,2,ja g 0 [.int .u64 ((P/18446744073709551616:Nat):Int),.int .u64 ((P%18446744073709551616:Nat):Int)]⟩) b P :=
 ⟨_,cp,fun j a=>by
  rcases (om:j=0∨j=1)with rfl|rfl<;>simp[ja]⟩
def Mh.get(h:Mh S b P):∃g,S b=some ⟨202,1,2,g⟩/\eG g 0 2=[.int .u64 ((P/18446744073709551616:Nat):Int),.int .u64 ((P%18446744073709551616:Nat):Int)]:=by
 obtain⟨g,u,w⟩:=h;exact⟨g,u,by simp[eG,w 0 om,w 1 om]⟩
def ri(h:X<9223372036854775808):IntKind.u64.wrap (X:Int)=X:=by rw[ci];omega
def Dv(h:X<9223372036854775808):IntKind.i64.wrap (0-(-(X:Int)))=X:=by rw[show(0-(-(X:Int)))=X by omega];exact i64_in om om
def I4(S:St)(b c i:Nat)(a v:Nat->Int):Prop:=∃P N:Nat,Mh S b P/\Mh S c N/\(P:Int)-N=aq i (fun j=>a j*v j)/\P<=i*10141204801825835211973625643008/\N<=i*10141204801825835211973625643008
def Hw(h:¬0<=x):∃X:Nat,x=-(X:Int)/\0<X:=⟨x.natAbs,om,om⟩
def I4.next{c Y N P' N':Nat}(g:Mh S b P')(k:Mh S c N')(h:(P:Int)-N=aq i (fun j=>a j*v j))(bXY:X*Y<=10141204801825835211973625643008)(bP:P<=i*10141204801825835211973625643008)(bN:N<=i*10141204801825835211973625643008)
  (d:(P'=P+X*Y/\N'=N/\a i*v i=(X:Int)*Y)∨(P'=P/\N'=N+X*Y/\a i*v i=-((X:Int)*Y))):I4 S b c (i+1) a v:=by
 have e:((X*Y:Nat):Int)=(X:Int)*Y:=bF X Y;have eK:=dl i 10141204801825835211973625643008;refine⟨P',N',g,k,?_,?_,?_⟩
 .simp only[aq];rcases d with⟨rfl,rfl,f⟩|⟨rfl,rfl,f⟩<;>rw[f,<-h]<;>generalize (X:Int)*Y=Z at*<;> omega
 .clear h e;rw[eK];generalize 10141204801825835211973625643008=K at *;rcases d with⟨rfl,rfl,_⟩|⟨rfl,rfl,_⟩<;>omega
 .clear h e;rw[eK];generalize 10141204801825835211973625643008=K at *;rcases d with⟨rfl,rfl,_⟩|⟨rfl,rfl,_⟩<;>omega
def QZ{a c B:Code}(h:∀B,Aw (.seq a (.seq c B)) Q O S):Aw (.seq a (.seq c B)) Q O S:=h B
def N6(s:Int):AV:=.tup [.int .i64 (if s.natAbs<=4611686018427387904 then s else 0),.bool (decide (s.natAbs<=4611686018427387904))]
def Ln(n:Nat)(a v:Nat->Int)(K:n<=16)(E:∀i,i<n->(a i).natAbs<=1099511627776)(F:∀j,j<n->(v j).natAbs<9223372036854775808) :
  PF 168 [aW n a,aW n v] (N6 (aq n (fun j=>a j*v j))):=by
 refine jo func168 ntmps168 results168 ?_;simp only[go_sem,aW];refine aG.intro fun bb fb=>?_
 try simp only[go_sem]
 refine aG.intro fun bc fc=>?_;have nc_b:=(ag fc).1
 try simp only[go_sem]
 refine dA (fun O S=>∃i:Nat,i<=n/\O 1=aW n v/\O 6=.ptr 1 bb 0/\O 7=.ptr 1 bc 0/\O 15=aW n a/\O 16=.int .i64 n/\O 17=.int .i64 i/\I4 S bb bc i a v) (fun O S=>n-co (O 17)) ?_ ?_
 .simp only[go_sem,aW];exact⟨0,om,rfl,0,0,(bG.here fun j G=>by simp).upd (aj nc_b) _,bG.here fun j G=>by simp,by simp[aq],om,om⟩
 rintro Q' A O S ⟨i,L,z,q,r,m,e,f,P,N,C,D,s,bP,bN⟩;obtain⟨g,u,w⟩:=C.get;obtain⟨g',u',w'⟩:=D.get;have H:¬((2:Nat)=1):=by decide
 have bP':P<=162259276829213363391578010288128:=by
  have:=aD 10141204801825835211973625643008 (om:i<=16)
  omega
 have bN':N<=162259276829213363391578010288128:=by
  have:=aD 10141204801825835211973625643008 (om:i<=16)
  omega
 by_cases b:i<n
 .have I:=E i b;have J:=F i b;have M:=aS (om:i<1000000)
  have o:(a i).natAbs*(v i).natAbs<=10141204801825835211973625643008:=a9 (aV I (dp J)) dc
  by_cases t:0<=a i
  .obtain⟨X,d⟩:=i9 t;have bX:X<9223372036854775808:=om
   have nX:¬((X:Int)<0):=om
   by_cases k:0<=v i
   .obtain⟨Y,c⟩:=i9 k;have bY:Y<9223372036854775808:=om
    have bXY:X*Y<=10141204801825835211973625643008:=by have h:=o;rw[d,c]at h;simpa using h
    simp -dsimp only[go_sem,aa,z,q,r,m,e,f,b,aW,d,c,cO,u,u',ri bX,ri bY]
    repeat refine an ?_
    try simp -dsimp only[go_sem,w]
    refine(yx (W:=P) (om:X<18446744073709551616) (om:Y<18446744073709551616) om).call ?_
    simp only[*,go_sem,co,RO,cA,fY,a8,aR,cG,cP]
    repeat refine an ?_
    exact⟨⟨i+1,om,rfl,rfl,rfl,I4.next Mh.put (D.upd nc_b _) s bXY bP bN (bW ⟨rfl,rfl,by rw[d,c]⟩)⟩,om⟩
   .obtain⟨Y,c,pY⟩:=Hw k;have bY:Y<9223372036854775808:=om
    have bXY:X*Y<=10141204801825835211973625643008:=by have h:=o;rw[d,c]at h;simpa using h
    simp -dsimp only[go_sem,aa,z,q,r,m,e,f,b,aW,d,c,cO,nX,(om:¬((0:Int)<=-(Y:Int))),u,u',ri bX,ri bY,Dv bY]
    repeat refine an ?_
    try simp -dsimp only[go_sem,w']
    refine(yx (W:=N) (om:X<18446744073709551616) (om:Y<18446744073709551616) om).call ?_
    simp only[*,go_sem,co,RO,cA,fY,a8,aR,cG,cP]
    repeat refine an ?_
    exact⟨⟨i+1,om,rfl,rfl,rfl,I4.next (C.upd (aj nc_b) _) Mh.put s bXY bP bN (bQ ⟨rfl,rfl,by rw[d,c];exact nB _ _⟩)⟩,om⟩
  .obtain⟨X,d,pX⟩:=Hw t;have bX:X<9223372036854775808:=om
   have nX:¬((0:Int)<=-(X:Int)):=om
   have nX':-(X:Int)<0:=om
   by_cases k:0<=v i
   .obtain⟨Y,c⟩:=i9 k;have bY:Y<9223372036854775808:=om
    have bXY:X*Y<=10141204801825835211973625643008:=by have h:=o;rw[d,c]at h;simpa using h
    simp -dsimp only[go_sem,aa,z,q,r,m,e,f,b,aW,d,c,cO,nX,nX',(om:¬((Y:Int)<0)),u,u',ri bX,ri bY,Dv bX]
    repeat refine an ?_
    try simp -dsimp only[go_sem,w']
    refine(yx (W:=N) (om:X<18446744073709551616) (om:Y<18446744073709551616) om).call ?_
    simp only[*,go_sem,co,RO,cA,fY,a8,aR,cG,cP]
    repeat refine an ?_
    exact⟨⟨i+1,om,rfl,rfl,rfl,I4.next (C.upd (aj nc_b) _) Mh.put s bXY bP bN (bQ ⟨rfl,rfl,by rw[d,c];exact sE _ _⟩)⟩,om⟩
   .obtain⟨Y,c,pY⟩:=Hw k;have bY:Y<9223372036854775808:=om
    have bXY:X*Y<=10141204801825835211973625643008:=by have h:=o;rw[d,c]at h;simpa using h
    simp -dsimp only[go_sem,aa,z,q,r,m,e,f,b,aW,d,c,nX,nX',(om:-(Y:Int)<0),u,u',ri bX,ri bY,Dv bX,Dv bY]
    repeat refine an ?_
    try simp -dsimp only[go_sem,w]
    refine(yx (W:=P) (om:X<18446744073709551616) (om:Y<18446744073709551616) om).call ?_
    simp only[*,go_sem,co,RO,cA,fY,a8,aR,cG,cP]
    repeat refine an ?_
    exact⟨⟨i+1,om,rfl,rfl,rfl,I4.next Mh.put (D.upd nc_b _) s bXY bP bN (bW ⟨rfl,rfl,by rw[d,c];exact qc _ _⟩)⟩,om⟩
 have x:i=n:=om
 refine QZ fun B=>?_;simp only[go_sem,e,f,b];rw[x]at s;rw[A,<-s];simp -dsimp only[go_sem,aa,q,r,u,u']
 repeat refine an ?_
 try simp -dsimp only[*,go_sem]
 refine(B7 (W:=P) (V:=N) om om).call ?_;by_cases y:N<=P/\P-N<=4611686018427387904
 .rw[ah y,nZ y];simp only[go_sem,aa,q,r,u,w,u',w'];have p:((P:Int)-N).natAbs<=4611686018427387904:=om
  unfold N6;rw[ah p,nZ p,Int.ofNat_sub y.1];exact VR.mf rfl
 .rw[af y,p9 y];simp -dsimp only[go_sem,aa,q,r,u,w,u',w']
  repeat refine an ?_
  try simp -dsimp only[*,go_sem]
  refine(B7 (W:=N) (V:=P) om om).call ?_;by_cases p:P<=N/\N-P<=4611686018427387904
  .rw[ah p,nZ p];simp only[go_sem,show IntKind.i64.wrap (0-((N-P:Nat):Int))=(P:Int)-N by rw[Int.ofNat_sub p.1];rw[(om:0-((N:Int)-P)=(P:Int)-N)];exact i64_in om om]
   have l:((P:Int)-N).natAbs<=4611686018427387904:=om
   unfold N6;rw[ah l,nZ l];exact VR.mf rfl
  .rw[af p,p9 p];simp only[go_sem,show IntKind.i64.wrap (0-(0:Int))=0 from rfl];have l:¬((P:Int)-N).natAbs<=4611686018427387904:=om
   unfold N6;rw[af l,p9 l];exact VR.mf rfl

def Gz(n:Nat)(a b:Nat->Int)(β:Bool)(m:n<=16)(hβ:β=true↔∀i,i<n->a i=b i):PF 52 [aW n a,aW n b] (.bool β):=by
 refine jo func52 ntmps52 results52 ?_;simp only[go_sem,aW,bU];refine aI (fun O S=>∃i:Nat,i<=n/\(∀k,k<i->a k=b k)/\O 0=aW n a/\O 1=aW n b/\O 12=.int .i64 n/\O 13=.int .i64 i) (fun O S=>n-co (O 13)) ?_ ?_
 .simp only[go_sem,aW];exact⟨0,om,fun k g=>om,rfl⟩
 .rintro O S ⟨i,o,c,p,q,j,l⟩;by_cases d:i<n
  .by_cases f:a i=b i
   .simp -dsimp only[*,go_sem,aW];refine bD 9 kr ?_
    simp only[*,go_sem,aa,aW,bU,aS (om:i<1000000),co]
    refine⟨⟨i+1,om,fun k g=>?_,rfl⟩,om⟩
    by_cases e:k=i
    .rw[e];exact f
    .exact c k om
   .simp -dsimp only[*,go_sem,aW];refine bD 9 kr ?_
    simp only[*,go_sem,aa,aW,show(a i != b i)=true by simpa using f]
    rw[dD hβ fun h=>f (h i d)];exact VR.mf rfl
  .simp only[*,go_sem,aW];rw[hβ.2 fun k g=>c k om];exact VR.mf rfl
def yu(n m:Nat)(A B:aH)(β:Bool)(q:n<=16)(f:m<=16)(hβ:β=true↔∀i j,i<n->j<m->A i j=B i j):PF 51 [aC n m A,aC n m B,.fn 52 []] (.bool β):=by
 refine jo func51 ntmps51 results51 ?_;simp only[go_sem,aC,aW,bU];refine aI (fun O S=>∃i:Nat,i<=n/\(∀k j,k<i->j<m->A k j=B k j)/\O 1=aC n m B/\O 2=.fn 52 []/\O 15=aC n m A/\O 16=.int .i64 n/\O 17=.int .i64 i) (fun O S=>n-co (O 17)) ?_ ?_
 .simp only[go_sem,aC,aW];exact⟨0,om,fun k j d=>om,rfl⟩
 .rintro O S ⟨i,r,b,s,t,g,l,o⟩;by_cases c:i<n
  .obtain⟨γ,hγ⟩:=jB (∀j,j<m->A i j=B i j);simp -dsimp only[*,go_sem,aa,aC];refine(Gz m (A i) (B i) γ f hγ).call ?_
   cases γ with
   | true =>
    have p:=hγ.1 rfl;simp only[*,go_sem,aS (om:i<1000000),co]
    refine⟨⟨i+1,om,fun k j d a=>?_,rfl,rfl,rfl⟩,om⟩
    by_cases e:k=i
    .rw[e];exact p j a
    .exact b k j om a
   | false =>
    simp only[*,go_sem];rw[dD hβ fun h=>by have:=hγ.2 (fun j a=>h i j c a);cases this]
    exact VR.mf rfl
  .simp only[*,go_sem,aa,aC];rw[hβ.2 fun k j d a=>b k j om a];exact VR.mf rfl
def qk(m:Nat)(len:Nat->Nat)(T:aH):AV:=.lst 1 m (fun i=>aW (len i) (T i))
def Dk(n m:Nat)(len:Nat->Nat)(T:aH)(β:Bool)(p:m<=16)(hβ:β=true↔m=n/\∀i,i<m->len i=n):PF 49 [qk m len T,.int .i64 n] (.bool β):=by
 refine jo func49 ntmps49 results49 ?_;simp only[go_sem,qk,aW];refine aI (fun O S=>∃i:Nat,i<=m/\(∀k,k<i->len k=n)/\O 0=qk m len T/\O 1=.int .i64 n/\O 7=qk m len T/\O 8=.int .i64 m/\O 9=.int .i64 i) (fun O S=>m-co (O 9)) ?_ ?_
 .simp only[go_sem,qk,aW];exact⟨0,om,fun k d=>om,rfl⟩
 .rintro O S ⟨i,q,a,f,g,j,l,o⟩;by_cases b:i<m
  .by_cases c:len i=n
   .simp only[*,go_sem,qk,aW,bU,aS (om:i<1000000),co]
    refine⟨⟨i+1,om,fun k d=>?_,rfl⟩,om⟩
    by_cases e:k=i
    .rw[e];exact c
    .exact a k om
   .simp only[*,go_sem,qk,aW,show(((len i:Nat):Int) != (n:Int))=true by simp;omega]
    rw[dD hβ fun h=>c (h.2 i b)];exact VR.mf rfl
  .by_cases c:m=n
   .simp only[go_sem,qk,aW,f,g,j,l,o,b,show(((m:Nat):Int)==(n:Int))=true by simp;omega]
    rw[hβ.2 ⟨c,fun k d=>a k om⟩];exact VR.mf rfl
   .simp only[*,go_sem,qk,aW,show(((m:Nat):Int)==(n:Int))=false by simp;omega]
    rw[dD hβ fun h=>c h.1];exact VR.mf rfl
def El(n m:Nat)(len:Nat->Nat)(T:aH)(β:Bool)(p:m<=16)(hβ:β=true↔m=n/\∀i,i<m->len i=n):PF 22 [qk m len T,.int .i64 n] (.bool β):=by
 refine jo func22 ntmps22 results22 ?_;simp only[go_sem,qk,aW];refine aI (fun O S=>∃i:Nat,i<=m/\(∀k,k<i->len k=n)/\O 0=qk m len T/\O 1=.int .i64 n/\O 7=qk m len T/\O 8=.int .i64 m/\O 9=.int .i64 i) (fun O S=>m-co (O 9)) ?_ ?_
 .simp only[go_sem,qk,aW];exact⟨0,om,fun k d=>om,rfl⟩
 .rintro O S ⟨i,q,a,f,g,j,l,o⟩;by_cases b:i<m
  .by_cases c:len i=n
   .simp only[*,go_sem,qk,aW,bU,aS (om:i<1000000),co]
    refine⟨⟨i+1,om,fun k d=>?_,rfl⟩,om⟩
    by_cases e:k=i
    .rw[e];exact c
    .exact a k om
   .simp only[*,go_sem,qk,aW,show(((len i:Nat):Int) != (n:Int))=true by simp;omega]
    rw[dD hβ fun h=>c (h.2 i b)];exact VR.mf rfl
  .by_cases c:m=n
   .simp only[go_sem,qk,aW,f,g,j,l,o,b,show(((m:Nat):Int)==(n:Int))=true by simp;omega]
    rw[hβ.2 ⟨c,fun k d=>a k om⟩];exact VR.mf rfl
   .simp only[*,go_sem,qk,aW,show(((m:Nat):Int)==(n:Int))=false by simp;omega]
    rw[dD hβ fun h=>c h.1];exact VR.mf rfl
def Ai(n:Nat)(a:Nat->Int)(β:Bool)(f:n<=16)(hβ:β=true↔∀i,i<n->(a i).natAbs<=1099511627776):PF 214 [aW n a] (.bool β):=by
 refine jo func214 ntmps214 results214 ?_;simp only[go_sem,aW];refine aI (fun O S=>∃i:Nat,i<=n/\(∀k,k<i->(a k).natAbs<=1099511627776)/\O 5=aW n a/\O 6=.int .i64 n/\O 7=.int .i64 i) (fun O S=>n-co (O 7)) ?_ ?_
 .simp only[go_sem,aW];exact⟨0,om,fun k d=>om,rfl⟩
 .rintro O S ⟨i,g,b,j,l,m⟩;by_cases c:i<n
  .by_cases o:a i < -1099511627776
   .simp only[*,go_sem,aW];rw[dD hβ fun h=>by have:=h i c;omega]
    exact VR.mf rfl
   by_cases p:1099511627776<a i
   .simp only[*,go_sem,aW];rw[dD hβ fun h=>by have:=h i c;omega]
    exact VR.mf rfl
   simp only[*,go_sem,aW,aS (om:i<1000000),co]
   refine⟨⟨i+1,om,fun k d=>?_,rfl⟩,om⟩
   by_cases e:k=i
   .rw[e];omega
   .exact b k om
  .simp only[*,go_sem,aW];rw[hβ.2 fun k d=>b k om];exact VR.mf rfl
def FK(n:Nat)(a:Nat->Int)(β:Bool)(b:n<=16)(hβ:β=true↔∀i,i<n->(a i).natAbs<=1099511627776):PF 166 [.int .i64 n,aW n a] (.bool β):=by
 refine jo func166 ntmps166 results166 ?_;simp -dsimp only[go_sem,aa,aW,dw];refine(Ai n a β b hβ).call ?_
 cases β<;>simp only[go_sem,dw]
 .exact VR.mf rfl
 .exact VR.mf rfl

def pM(n:Nat)(A B:aH)(i j:Nat):Int:=aq n fun k=>B j k*aq n (fun l=>A k l*B i l)
def sV(n:Nat)(A B:aH)(i j:Nat):Int:=if j<=i then pM n A B i j else pM n A B j i
def GrR(S:St)(b m k:Nat)(E:aH):Prop:=∃g,fL 29 2 1 St.none S b g m m k (fun a c=>.int .i64 (E a c))
def I0(n m:Nat)(A B:aH):Prop:=(∀i k,i<m->k<n->(B i k).natAbs<=1099511627776)/\∀i j,i<m->j<i+1->(pM n A B i j).natAbs<=4611686018427387904
def yf(n m:Nat)(A B:aH)(β:Bool)(r:AV)(S':St):Prop:=(β=true/\∃b g,r=.tup [.sl 1 b 0 m,.bool true]/\dZ S' b g m m (sV n A B))∨(β=false/\r=.tup [.nil,.bool false])
def yf.lift{f:Nat}(h:cZ f args St.none (yf n m A B β))(S:St)(args':List AV)(i:fH S args' args):cZ f args' S (fun r S'=>yf n m A B β r S'/\fM S S'):=by
 have j:cZ f args St.none (fun r S'=>yf n m A B β r S'/\clb r=true/\Kq S'):=h.less fun r S' d=>by
  rcases d with⟨a,b,g,rfl,c⟩|⟨a,rfl⟩
  .exact⟨ik S' b g m,jQ S' b g m,bW ⟨a,b,g,rfl,c.only.1⟩,rfl,c.only.2⟩
  .exact⟨St.none,fun _ _ e=>(by cases e),bQ ⟨a,rfl⟩,rfl,fun _ _ e=>(by cases e)⟩
 refine(j.frame i fun r S1 k=>k.2).mono ?_;rintro r S' ⟨S1,⟨d,_,_⟩,l,rfl⟩;refine⟨?_,rF S S1⟩;rcases d with⟨a,b,g,rfl,c⟩|⟨a,rfl⟩
 .exact bW ⟨a,b,g,rfl,(c.join l).1⟩
 .exact bQ ⟨a,rfl⟩
def CJ(d:n<=8)(a:∀i j,i<n->j<n->-262144<A i j/\A i j<262144)(b:∀j,j<n->(v j).natAbs<=1099511627776){i t:Nat}(c:i<n)(e:t<=n):(aq t (fun j=>A i j*v j)).natAbs<=2305843009213693952:=by
 refine a9 (a9 (pF _ _) (mB (B:=288230376151711744) fun j f=>?_)) (aD 288230376151711744 (om:t<=8))
 rw[cH];exact a9 (aV (show(A i j).natAbs<=262144 by have:=a i j c om;omega) (b j om)) dc
def D6(n:Nat)(A:aH)(v:Nat->Int)(E:n<=8)(B:∀i j,i<n->j<n->-262144<A i j/\A i j<262144)(C:∀j,j<n->(v j).natAbs<=1099511627776) :
  PF 167 [aC n n A,aW n v] (aW n (fun i=>aq n (fun j=>A i j*v j))):=by
 have F:∀i j,i<n->j<n->IntKind.i64.wrap (A i j*v j)=A i j*v j:=fun i j q s=>by
  have h:=aV (show(A i j).natAbs<=262144 by have:=B i j q s;omega) (C j s)
  rw[<-cH]at h;exact i64_in om om
 have G:∀i t,i<n->t<=n->IntKind.i64.wrap (aq t (fun j=>A i j*v j))=aq t (fun j=>A i j*v j):=fun i t q H=>by
  have h:=CJ E B C q H;exact i64_in om om
 refine jo func167 ntmps167 results167 ?_;simp -dsimp only[go_sem,aC,aW]
 repeat refine an ?_
 refine aG.intro fun bb fb=>?_
 try simp only[go_sem]
 refine dA (fun O S=>∃i:Nat,i<=n/\O 1=aW n v/\O 5=.sl 1 bb 0 n/\O 13=aC n n A/\O 14=.int .i64 n/\O 15=.int .i64 i/\ku S bb n (fun r=>if r<i then aq n (fun j=>A r j*v j)else 0)) (fun O S=>n-co (O 15)) ?_ ?_
 .simp only[go_sem,aC,aW];exact⟨0,om,rfl,bG.here fun j s=>by simp⟩
 rintro Q' x O S ⟨i,q,D,y,b,c,d,l⟩;by_cases a:i<n
 .simp only[go_sem,b,c,d,a,aC,aW];refine dA (fun O S=>∃j:Nat,j<=n/\O 1=aW n v/\O 5=.sl 1 bb 0 n/\O 6=.int .i64 i/\O 13=aC n n A/\O 14=.int .i64 n/\O 15=.int .i64 i/\O 20=aW n (A i)/\O 21=.int .i64 n/\O 22=.int .i64 j /\
   ku S bb n (fun r=>if r=i then aq j (fun j=>A i j*v j)else if r<i then aq n (fun j=>A r j*v j)else 0)) (fun O S=>n-co (O 22)) ?_ ?_
  .simp only[*,go_sem,aC,aW];obtain⟨g,u,w⟩:=l;exact⟨0,om,rfl,g,u,fun r k=>(w r k).trans (by by_cases e:r=i<;>simp[e,aq])⟩
  clear D y b c d l;clear O S;rintro Q2 z O S ⟨j,s,D,y,I,b,c,d,m,o,p,l⟩;by_cases f:j<n
  .obtain⟨g,u,w⟩:=id l;have J:g i=.int .i64 (aq j (fun j=>A i j*v j)):=(w i a).trans sm
   simp -dsimp only[go_sem,m,o,p,f,aW];refine bD 12 kr ?_
   simp only[*,go_sem,aa,aW,F i j a f,show aq j (fun j=>A i j*v j)+A i j*v j=aq (j+1) (fun j=>A i j*v j)from rfl,G i (j+1) a f,aS (om:j<1000000),co]
   exact⟨⟨j+1,om,rfl,_,cp,fun r k=>by
    by_cases e:r=i
    .simp[bR,e]
    .exact(af e).trans ((w r k).trans (by simp[e]))⟩,om⟩
  .simp only[go_sem,aa,m,o,p,f];rw[z];simp only[*,go_sem,aS (om:i<1000000),co]
   obtain rfl:j=n:=om
   obtain⟨g,u,w⟩:=l;exact⟨⟨i+1,om,rfl,rfl,rfl,g,u,fun r k=>(w r k).trans (by
    by_cases e:r=i
    .simp[e]
    .simp[e,(om:r<i+1↔r<i)])⟩,om⟩
 .simp only[go_sem,aa,b,c,d,a];rw[x];simp only[go_sem,y];obtain rfl:i=n:=om
  obtain⟨g,u,w⟩:=l;exact ku.vr ⟨g,u,fun r k=>(w r k).trans (by simp[k])⟩
def Gx(n m:Nat)(A B:aH)(h1:1<=n)(hn:n<=5)(hm:m<=8)(hA:∀i j,i<n->j<n->-262144<A i j/\A i j<262144)(hRd:(∀i j,i<n->j<n->A i j=A j i)/\vA A n)(β:Bool)(hβ:β=true↔I0 n m A B):cZ 110 [aC n n A,aC m n B] St.none (yf n m A B β):=by
 refine jI func110 ntmps110 results110 ?_;simp -dsimp only[go_sem,aa];refine(nA n A true h1 hn hA ⟨fun _=>hRd,fun _=>rfl⟩).call ?_;simp only[go_sem,aC];refine dA (fun O S=>∃i:Nat,i<=m/\(∀a k,a<i->k<n->(B a k).natAbs<=1099511627776)/\O 0=aC n n A/\O 1=aC m n B/\O 19=aC m n B/\O 20=.int .i64 m/\O 21=.int .i64 i/\S=St.none) (fun O S=>m-co (O 21)) ?_ ?_
 .simp only[go_sem,aC];exact⟨0,om,fun a k M=>om,rfl⟩
 rintro Q1 G O S ⟨i,X,H,p,r,s,t,u,rfl⟩;by_cases b:i<m
 .obtain⟨γ,hγ⟩:=jB (∀j,j<n->(B i j).natAbs<=1099511627776);simp -dsimp only[go_sem,aa,p,s,t,u,b,aC];refine(FK n (B i) γ om hγ).call ?_
  cases γ with
  | true =>
   simp only[*,go_sem,aC,aS (om:i<1000000),co]
   refine⟨⟨i+1,om,fun a k M C=>?_,rfl⟩,om⟩
   by_cases e:a=i
   .rw[e];exact hγ.1 rfl k C
   .exact H a k om C
  | false =>
   simp only[go_sem,p,r,s,t,u,aC];rw[G];simp only[go_sem];exact bQ ⟨dD hβ fun h=>(by have:=hγ.2 (fun j Y=>h.1 i j b Y);cases this),rfl⟩
 have Z:∀a k,a<m->k<n->(B a k).natAbs<=1099511627776:=fun a k M C=>H a k om C;clear H;simp only[go_sem,aa,p,s,t,u,b];rw[G];simp -dsimp only[go_sem,r,aC]
 repeat refine an ?_
 refine aG.intro fun bb fb=>?_
 try simp only[go_sem]
 refine dA (fun O S=>∃i:Nat,i<=m/\O 0=aC n n A/\O 1=aC m n B/\O 8=.sl 1 bb 0 m/\O 35=.int .i64 m/\O 36=.int .i64 i/\GrR S bb m i (fun _ _=>0)) (fun O S=>m-co (O 36)) ?_ ?_
 .simp only[*,go_sem,aC];exact⟨0,om,rfl,fun _=>0,fL.init fb (fun _ _=>rfl) _ _⟩
 clear p r s t u b X G Q1 O i;rintro Q2 I O S ⟨i,X,p,r,N,R,T,g,d⟩;by_cases b:i<m
 .obtain⟨g4,u4,v4⟩:=id d.outer;simp -dsimp only[*,go_sem,aa,aC]
  repeat refine an ?_
  refine aG.intro fun bd fd=>?_;have hdc:bb≠bd:=bG.fresh d.outer fd;have hset:bR g4 i (.sl 1 bd 0 m) i=.sl 1 bd 0 m:=by simp[bR]
  try simp only[*,go_sem]
  clear I;have hR1:=d.push dc fd u4 (fun _=>.int .i64 0)
  simp only[go_sem,aS (om:i<1000000),co]
  refine⟨⟨i+1,om,rfl,_,hR1.congr fun a c _ _=>?_⟩,om⟩
  by_cases e:a=i<;>simp[e]
 simp only[go_sem,aa,p,r,N,R,T,b];rw[I];have D:i=m:=om
 rw[D]at d;clear D b X R T I Q2;simp only[go_sem,r,aC];refine dA (fun O S=>∃i:Nat,i<=m/\O 0=aC n n A/\O 1=aC m n B/\O 8=.sl 1 bb 0 m/\O 46=aC m n B/\O 47=.int .i64 m/\O 48=.int .i64 i/\(∀a c,a<i->c<a+1->(pM n A B a c).natAbs<=4611686018427387904)/\GrR S bb m m (fun a c=>if a<i/\c<i then sV n A B a c else 0)) (fun O S=>m-co (O 48)) ?_ ?_
 .simp only[*,go_sem,aC];exact⟨0,om,rfl,fun a c M=>om,g,d.congr fun a c _ _=>by simp⟩
 clear p r N d;clear O S g i;rintro Q3 v O S ⟨i,X,p,r,N,w,x,y,hP,P⟩;by_cases b:i<m
 .simp -dsimp only[go_sem,aa,p,w,x,y,b,aC];refine(D6 n A (B i) om hA (fun j Y=>Z i j b Y)).call ?_;simp only[go_sem,p,aC];refine dA (fun O S=>∃j:Nat,j<=i+1/\O 0=aC n n A/\O 1=aC m n B/\O 8=.sl 1 bb 0 m/\O 10=.int .i64 i/\O 12=aW n (fun k=>aq n (fun l=>A k l*B i l))/\O 46=aC m n B/\O 47=.int .i64 m/\O 48=.int .i64 i/\O 57=.int .i64 (i+1:Nat)/\O 58=.int .i64 j/\(∀c,c<j->(pM n A B i c).natAbs<=4611686018427387904) /\
   GrR S bb m m (fun a c=>if (a<i/\c<i)∨(a=i/\c<j)∨(c=i/\a<j)then sV n A B a c else 0)) (fun O S=>i+1-co (O 58)) ?_ ?_
  .simp only[*,go_sem,aC,aS (om:i<1000000)]
   obtain⟨g,d⟩:=P;exact⟨0,om,rfl,fun c Q=>om,g,d.congr fun a c _ _=>by simp⟩
  clear p r N w x y P;clear O S;rintro Q4 z O S ⟨j,Y,p,r,N,e10,J,w,x,y,U,V,K,P⟩;by_cases L:j<i+1
  .have f:j<m:=om
   simp -dsimp only[go_sem,aa,r,J,U,V,L,f,aC];refine(Ln n (B j) _ om (fun k C=>Z j k f C) (fun k C=>by have:=CJ om hA (fun l hl=>Z i l b hl) C (ae n);omega)).call ?_
   have W:aq n (fun k=>B j k*aq n (fun l=>A k l*B i l))=pM n A B i j:=rfl;unfold N6;by_cases o:(pM n A B i j).natAbs<=4611686018427387904
   case neg =>
    rw[W,af o,p9 o];simp only[go_sem,r,J,aC];rw[z];simp only[go_sem];rw[v];simp only[go_sem];exact bQ ⟨dD hβ fun h=>o (h.2 i j b L),rfl⟩
   rw[W,ah o,nZ o];obtain⟨g,d⟩:=P;obtain⟨g4,u4,v4⟩:=id d.outer;obtain⟨g5,u5,v5⟩:=id (d.row i b);obtain⟨g6,u6,v6⟩:=id (d.row j f);have x4:g4 i=.sl 1 (g i) 0 m:=(v4 i b).trans (ah b);have x5:g4 j=.sl 1 (g j) 0 m:=(v4 j f).trans (ah f);clear z v;simp -dsimp only[*,go_sem,aC];refine ie 13 kr ?_
   by_cases e:j=i
   .subst e;simp only[*,go_sem,aa,aC,aS (om:j<1000000),co]
    have hv:sV n A B j j=pM n A B j j:=ah (ae _);refine⟨⟨j+1,om,rfl,fun c Q=>by
     by_cases q:c=j
     .rw[q];exact o
     .exact K c om,g,((d.put dc f u6 j _).put dc f cp j _).congr fun a c _ _=>?_⟩,om⟩
    dsimp only;by_cases E:a=j/\c=j
    .rw[ah E,ah om];obtain⟨rfl,rfl⟩:=E;exact jA _ hv.symm
    rw[af E,af E];by_cases F:(a<j/\c<j)∨(a=j/\c<j)∨(c=j/\a<j)
    .rw[ah F,ah om]
    .rw[af F,af om]
   .have nij:g i≠g j:=fun h=>e (d.inj j i f b h.symm);simp only[*,go_sem,aa,aC,aj nij,aS (om:j<1000000),co]
    have hv:sV n A B i j=pM n A B i j:=ah om;have hv2:sV n A B j i=pM n A B i j:=af om;have u6':(S.upd (g i) ⟨2,1,m,bR g5 j (.int .i64 (pM n A B i j))⟩) (g j)=some ⟨2,1,m,g6⟩:=(aO (aj nij)).trans u6;refine⟨⟨j+1,om,rfl,fun c Q=>by
     by_cases q:c=j
     .rw[q];exact o
     .exact K c om,g,((d.put dc b u5 j _).put dc f u6' i _).congr fun a c _ _=>?_⟩,om⟩
    dsimp only;by_cases E:a=j/\c=i
    .rw[ah E,ah om];obtain⟨rfl,rfl⟩:=E;exact jA _ hv2.symm
    rw[af E];by_cases q2:a=i/\c=j
    .rw[ah q2,ah om];obtain⟨rfl,rfl⟩:=q2;exact jA _ hv.symm
    rw[af q2];by_cases F:(a<i/\c<i)∨(a=i/\c<j)∨(c=i/\a<j)
    .rw[ah F,ah om]
    .rw[af F,af om]
  simp only[go_sem,aa,r,J,U,V,L];rw[z];clear z v;simp only[*,go_sem,aC,aS (om:i<1000000),co]
  obtain⟨g,d⟩:=P;refine⟨⟨i+1,om,rfl,fun a c M Q=>by
   by_cases q:a=i
   .rw[q];exact K c om
   .exact hP a c om Q,g,d.congr fun a c _ _=>?_⟩,om⟩
  dsimp only;by_cases F:(a<i/\c<i)∨(a=i/\c<j)∨(c=i/\a<j)
  .rw[ah F,ah om]
  .rw[af F,af om]
 simp only[go_sem,aa,p,w,x,y,b];rw[v];simp only[go_sem,N];obtain rfl:i=m:=om
 obtain⟨g,d⟩:=P;exact bW ⟨hβ.2 ⟨Z,hP⟩,bb,g,rfl,(d.imat fun a c M Q=>by dsimp only;rw[ah ⟨M,Q⟩]).1⟩

end Go.Proofs.YtdobfmlmenaajaaGreatDoor
