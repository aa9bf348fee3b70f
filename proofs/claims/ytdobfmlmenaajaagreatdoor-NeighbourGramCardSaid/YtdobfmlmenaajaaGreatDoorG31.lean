/-
  Lemmas for NeighbourGram.
-/
import Derived.Test.YtdobfmlmenaajaaGreatDoorG30
namespace Go.Proofs.YtdobfmlmenaajaaGreatDoor
open Go.RowKit Tryz
open _root_.Option renaming none→ab
set_option maxHeartbeats 6400000
set_option maxRecDepth 4096
set_option linter.all false
attribute [local go_sem] Nat.reduceAdd Nat.reduceEqDiff Nat.reduceLeDiff Nat.reduceLT reduceCtorEq Int.ofNat_lt decide_true decide_false Int.zero_le_ofNat
attribute [local go_sem ↓] reduceIte
variable{h x y z z':AV}{K:AV->St->Prop}{c p:Int}{args:List AV}{es f n:Nat}{g g':Nat->AV}{v v':Nat->Int}{len:Nat->Nat}{M:Nat->Prop}{S:St}{u:Value}{w:World}{A B H:aJ}{l:iz}
def zK(n:Nat)(p:Int)(H:aJ)(b:1<=n)(c:n<=8)(d:∀i j,i<n->j<n->-9223372036854775808<=H i j/\H i j<=9223372036854775807):PF 74 [aD n n H,.int .i64 p,.bool false] (.int .i64 (pO n H p)):=by
 refine iQ func74 ntmps74 results74 ?_;obtain⟨β,hβ⟩:=nN (fN n H);simp -dsimp only[go_sem,aa];refine(xh n H β b c d (hβ.trans (fN.iff b c))).call ?_
 cases β with
 | false =>
  simp -dsimp only[go_sem,aa];rw[IH fun h=>by have:=hβ.2 h;cases this]
  exact VR.mf rfl
 | true =>
 have a:=hβ.1 rfl;obtain⟨γ,hγ⟩:=nN (pY p/\¬det n H%p=0);simp -dsimp only[go_sem,aa];refine(Ds n p H b c a.ent a.det γ hγ).call ?_
 cases γ with
 | false =>
  simp -dsimp only[go_sem];rw[zh a fun h=>by have:=hγ.2 h;cases this]
  exact VR.mf rfl
 | true =>
  simp -dsimp only[go_sem];rw[xJ a (hγ.1 rfl)];exact VR.mf rfl
def Kf(a:0<n)(d:n<=1000)
  (c:∀b,S b=ab->K (.sl 1 b 0 n) (S.upd b ⟨2,1,n,fun i=>.int .i64 (v i)⟩)):fG 29 29 .nil (.lst 1 n (fun i=>.int .i64 (v i))) S K:=by
 unfold fG;rw[show dB 29=some 2 from rfl];exact⟨rfl,rfl,rfl,a,fun j e=>by simp[eg],om,c⟩
def Rk(S:St)(c i:Nat)(B:Int):Nat:=match S c with
 | some X=>match X.g i with
  | .int _ z=>(B-z).toNat
  | _=>0
 | ab=>0
def IA{c i:Nat}{w:Nat->Int}{B:Int}(h:bJ S c 2 1 n (fun k=>.int .i64 (w k)))(a:i<n):Rk S c i B=(B-w i).toNat:=by
 obtain⟨g,b,d⟩:=h;unfold Rk;rw[b];show(match g i with|.int _ z=>(B-z).toNat|_=>0)=_
 rw[d i a]
def Fx(S:St)(n p:Nat)(H:aJ)(v:Nat->Nat)(B:fN n H)(X:kX (det n H) p)(M:sn p)(C:lG n p H v) :
  cE 33 [aD n n H,.int .i64 p,aV n (fun k=>v k)] S (fun r S'=>∃(c:Nat) (l:iz),r=.tup [.sl 1 c 0 n,.int .i64 0]/\bJ S' c 2 1 n (fun k=>.int .i64 (l k))/\(∀i,i<n->(p:Int)∣l i-(v i:Nat))/\(∀i,i<n->0<=l i/\l i<=100000000)/\(p:Int)*p∣mg n H l l/\eQ S S'):=by
 have Y:=B.one;have hn:=B.eight;have f:=M.2;have hpp:(p:Int)*p<=99460729/\9<=(p:Int)*p:=by
  rw[<-bL];have a:=bs f.2 f.2;have b:=bs f.1 f.1;omega
 have wpp:IntKind.i64.wrap ((p:Int)*p)=((p*p:Nat):Int):=by rw[bL];exact i64_in om om
 obtain⟨piv,G,I,P⟩:=Gj B X M C;obtain⟨t,Q,ht1,R⟩:=Ox B M C G I;have T:∀i,i<n->(0:Int)<=(v i:Nat)/\((v i:Nat):Int)<=9972:=fun i D=>by have:=C.lt i D;omega
 refine jr func33 ntmps33 Tr ?_;simp -dsimp only[go_sem,aa];refine(zK n p H Y hn (fun i j D hj=>by have:=B.ent i j D hj;omega)).call ?_
 rw[xJ B ⟨pY.of M,X.2.2.2⟩];simp -dsimp only[go_sem,aa];refine(rn n p H (fun k=>v k) om om om (fun i D=>by have:=C.lt i D;omega)).call ?_
 have hb:(ix (fun k=>(v k:Int)) n==1&&eJ n H (fun k=>(v k:Int)) n%(p:Int)==0)=true:=by simp only[C.lead,C.norm];rfl
 simp -dsimp only[go_sem,hb];refine fq (fun O S'=>∃i:Nat,i<=piv/\S=S'/\O 0=aD n n H/\O 1=.int .i64 p/\O 2=aV n (fun k=>v k)/\O 9=.int .i64 i) (fun O S=>n-ca (O 9)) ?_ ?_
 .simp -dsimp only[go_sem];exact⟨0,om,rfl⟩
 rintro Q' J O _ ⟨i,D,rfl,m,o,E,s⟩;have d:i<n:=om
 simp -dsimp only[go_sem,aa,m,o,E,s];refine(zg n p H (fun k=>v k) om om om).call ?_;by_cases U:i<piv
 .have x:=P i U;unfold pV at x;simp -dsimp only[go_sem,m,o,E,s,aV,d,x,eS,aT (om:i<1000000),ca]
  exact⟨⟨i+1,om,rfl⟩,om⟩
 obtain rfl:i=piv:=om
 have V:((az n fun j=>H i j*((v j:Nat):Int))%(p:Int)==0)=false:=by
  have:=I;unfold pV at this;simpa using this
 simp -dsimp only[go_sem,m,o,E,s,aV,d,V];rw[J];simp -dsimp only[go_sem,E];refine Kf om om ?_;intro c Z;simp -dsimp only[go_sem,E];have hlv:∀(j:Int) k,k<n->im v p i j k=if k=i then((v k:Nat):Int)+p*j else v k:=fun j k _=>rfl
 have y:∀j:Int,0<=j->j<=t->∀k,k<n->0<=im v p i j k/\im v p i j k<=99470701:=fun j h0 Y k F=>by
  have a:0<=(p:Int)*j/\(p:Int)*j<=99460729:=by
   have:=cB (show(p:Int)<=9973 by omega) (om:j<=9973) h0 om
   exact⟨cZ om h0,om⟩
  have:=T k F;unfold im;split<;>omega
 refine fq (fun O S'=>∃j:Int,0<=j/\j<=t/\O 0=aD n n H/\O 1=.int .i64 p/\O 9=.int .i64 i/\O 10=.sl 1 c 0 n/\bJ S' c 2 1 n (fun k=>.int .i64 (im v p i j k))/\eQ S S') (fun _ S'=>Rk S' c i (v i+p*t)) ?_ ?_
 .simp -dsimp only[go_sem,m,o,s];exact⟨0,om,Q,bJ.here fun k F=>by unfold im;simp,(eQ.refl S).upd Z _⟩
 clear m o E s J;rintro Q2 W O S' ⟨j,K,z,m,o,s,q,N,hE⟩;simp -dsimp only[go_sem,aa,m,o,q,wpp];refine(By n (p*p) H (im v p i j) om om om).spec (fD.three (VA.refl _ _) (tT.vr (show tT S' c n (im v p i j)from N)).va (VA.refl _ _)) ?_;by_cases x:eJ n H (im v p i j) n%((p*p:Nat):Int)=0
 .have A:(eJ n H (im v p i j) n%((p*p:Nat):Int) != 0)=false:=by simpa using x
  simp -dsimp only[go_sem,aa,m,o,s,q,A];rw[W];simp -dsimp only[go_sem,q];refine⟨c,rfl,im v p i j,N,fun k _=>uS k,fun k F=>by have:=y j K z k F;omega,?_,hE⟩
  have:=dU x
  rwa [bL]at this
 .have A:(eJ n H (im v p i j) n%((p*p:Nat):Int) != 0)=true:=by simpa using x
  have hjt:j<t:=by
   rcases Tf z with h|h
   .exact h
   .subst h;rw[bL]at x;exact absurd (df R) x
  obtain⟨g,u,w⟩:=id N;have x1:g i=.int .i64 (im v p i j i):=w i d;have hb1:=y j K z i d;have wz:IntKind.i64.wrap (im v p i j i+p)=im v p i j i+p:=i64_in om om;simp -dsimp only[go_sem,aa,m,o,s,q,A,u,x1,d,wz];have L:bJ (S'.upd c ⟨2,1,n,bR g i (.int .i64 (im v p i j i+p))⟩) c 2 1 n (fun k=>.int .i64 (im v p i (j+1) k)):=bJ.here fun k F=>by
   simp only[bR];by_cases e:k=i
   .subst e;rw[ai rfl];show AV.int IntKind.i64 (im v p k j k+p)=AV.int IntKind.i64 (im v p k (j+1) k);unfold im;rw[ai rfl,ai rfl];congr 1;grind
   .rw[af e,w k F];show AV.int IntKind.i64 (im v p i j k)=AV.int IntKind.i64 (im v p i (j+1) k);unfold im;rw[af e,af e]
  refine⟨⟨j+1,om,om,L,hE.upd Z _⟩,?_⟩
  rw[IA L d,IA N d];unfold im;rw[ai rfl,ai rfl];have:=cc (om:j+1<=t) (show(0:Int)<=p by omega)
  have e5:(p:Int)*(j+1)=p*j+p:=by grind
  omega

def L2{p piv:Nat}{w:iz}{u:Int}(c:0<p)(a:piv<n)(b:(p:Int)∣u*w piv-1)(y:iz):eU n (n+1) (Ae n p piv (fun j=>w j*u%p) l) y↔ND n p w l y:=by
 refine Iy (p:=(p:Int)) om a b (fun j _ _=>?_) y;have e:=di (w j*u) p;obtain⟨t,d⟩:=b;generalize w j*u%(p:Int)=r at *;generalize hk:w j*u/(p:Int)=k at *;refine⟨w j*t-k*w piv,?_⟩;have:r=w j*u-p*k:=om
 subst this
 grind
def L0{p:Nat}{w:iz}(i:Nat):ND n p w l (gk ((p:Int)*p) i):=by
 refine⟨0,gk p i,fun k _=>?_,?_⟩
 .unfold gk;split<;>simp
 .refine i7 fun k _=>cU ?_;unfold gk;split
  .exact iN _
  .exact iM _
def GF(n p piv:Nat)(q l:iz)(j:Nat):aJ:=fun a c=>if c=n then l a else if c<j then jM p piv q a c else 0
def Mo{p piv:Nat}{q:iz}{a c:Nat}(b:c<n+1):GF n p piv q l n a c=Ae n p piv q l a c:=by
 unfold GF Ae;by_cases e:c=n
 .rw[ai e,af om]
 .rw[af e,ai om,ai om]
def Rw:∀j,j<9->gg 27 (j+1) j<=3000000000/\∀i,i<j->gg 27 (j+1) i+1<=536870912:=by decide +kernel
def pL(S:St)(n p:Nat)(H:aJ)(v:Nat->Nat)(hF:fN n H)(hg:kX (det n H) p)(W:sn p)(hL:lG n p H v) :
  cE 24 [aD n n H,.int .i64 p,aV n (fun k=>v k)] S (fun r S'=>∃b g B S1,r=.tup [.sl 1 b 0 n,.int .i64 0]/\DH n p H v B/\eQ S S1/\iE S1 S' b g n n B):=by
 have h1:=hF.one;have hn8:=hF.eight;have hp17:=p6 W;have hpp:=p6z W;obtain⟨piv,T,hs0,hsz⟩:=Gj hF hg W hL;refine jr func24 ntmps24 results24 ?_;simp -dsimp only[go_sem,aa];refine(Fx S n p H v hF hg W hL).mono ?_;rintro _ S1 ⟨c,l,rfl,hC,hl,hlb,hln,hE1⟩;simp -dsimp only[go_sem,aa,cK];refine(zg n p H (fun k=>v k) om om om).call ?_;have X:∀i,(az n fun j=>H i j*((v j:Nat):Int))%(p:Int)=wL n H p v i:=fun i=>(Ci n H p (fun k=>v k) i).symm;have I:wL n H p v piv≠0:=by rw[<-X];exact hs0
 have U:∀i,i<piv->wL n H p v i=0:=fun i hi=>by rw[<-X];exact hsz i hi
 have t:∀i,0<=wL n H p v i/\wL n H p v i<p:=fun i=>sG (n:=n) (H:=H) (p:=(p:Int)) (v:=fun k=>((v k:Nat):Int)) om i;simp only[X];have Y:=L2 (n:=n) (p:=p) (piv:=piv) (w:=wL n H p v) (l:=l) (u:=(bz (wL n H p v piv).toNat p).2.1%p) om T (by
  have h2:=RK W (a:=(wL n H p v piv).toNat) (by have:=t piv;omega) (by have:=t piv;omega)
  rwa [cL (t piv).1]at h2)
 have hNB:∀B,wC n n B->(∀c j,c<n->j<c->0<=B c j/\B c j<B c c)->(∀y,eU n n B y↔ND n p (wL n H p v) l y)->DH n p H v B:=fun B b1 b2 b3=>⟨b1,b2,⟨piv,T,I⟩,l,hl,hln,b3⟩;generalize wL n H p v=w at I U t Y hNB ⊢;have hrec:PF 61 [.int .i64 (w piv),.int .i64 p] (.tup [.int .i64 ((bz (w piv).toNat p).2.1%p),.bool true]):=by
  have h2:=xa (w piv).toNat p W (by have:=t piv;omega) (by have:=t piv;omega)
  rwa [cL (t piv).1]at h2
 have hur:0<=(bz (w piv).toNat p).2.1%(p:Int)/\(bz (w piv).toNat p).2.1%(p:Int)<p:=⟨aU _ om,aS _ om⟩;generalize hu:(bz (w piv).toNat p).2.1%(p:Int)=u at *;have hqr:∀j,0<=w j*u%(p:Int)/\w j*u%(p:Int)<p:=fun j=>⟨aU _ om,aS _ om⟩;simp -dsimp only[go_sem];refine aH (fun O S'=>∃i:Nat,i<=piv/\S1=S'/\O 1=.int .i64 p/\O 8=.sl 1 c 0 n/\O 10=.int .i64 n/\O 11=aV n w/\O 12=.int .i64 i) (fun O S=>n-ca (O 12)) ?_ ?_
 .simp -dsimp only[go_sem,aV];exact⟨0,om,rfl⟩
 rintro O _ ⟨i,hi,rfl,D,Z,d,f,m⟩;have o:i<n:=om
 by_cases hip:i<piv
 .simp -dsimp only[go_sem,aa,aV,D,Z,d,f,m,o,U i hip,eS,aT (om:i<1000000),ca]
  exact⟨⟨i+1,om,rfl⟩,om⟩
 obtain rfl:i=piv:=om
 simp -dsimp only[go_sem,aa,aV,D,Z,d,f,m,o,show(w i==0)=false by simpa using I]
 refine hrec.call ?_;simp -dsimp only[go_sem,aV,D,d,f,m]
 repeat refine an ?_
 refine aG.intro fun bb fb=>?_;simp -dsimp only[go_sem];refine aH (fun O S'=>∃a:Nat,a<=n/\O 1=.int .i64 p/\O 8=.sl 1 c 0 n/\O 10=.int .i64 n/\O 11=aV n w/\O 12=.int .i64 i/\O 13=.int .i64 u/\O 15=.sl 1 bb 0 n/\O 57=.int .i64 n/\O 58=.int .i64 a/\∃g',ft 29 2 1 S1 S' bb g' n (n+1) a (fun r k=>.int .i64 (GF n p i (fun j=>w j*u%p) l 0 r k))) (fun O S=>n-ca (O 58)) ?_ ?_
 .simp -dsimp only[go_sem,aV,D,Z,d,f,m];exact⟨0,om,rfl,fun _=>0,ft.init fb (fun _ _=>rfl) _ _⟩
 clear D Z d f m;rintro O S' ⟨a,ha,D,Z,d,f,m,x,q,K,L,g',E⟩;by_cases C:a<n
 .obtain⟨g4,u4,v4⟩:=id E.outer;have wn:IntKind.i64.wrap ((n:Int)+1)=((n+1:Nat):Int):=dM om om;simp -dsimp only[go_sem,aa,d,q,K,L,C,wn]
  repeat refine an ?_
  refine aG.intro fun bd fd=>?_;have hdb:bb≠bd:=bJ.fresh E.outer fd;simp -dsimp only[go_sem,C,u4,hdb];have F:=E.push dc fd u4 (fun _=>.int .i64 0)
  generalize hgg:(fun r=>if r=a then bd else g' r)=gg at F
  generalize (S'.upd bd ⟨2,1,n+1,fun _=>.int .i64 0⟩).upd bb ⟨29,1,n,bR g4 a (.sl 1 bd 0 (n+1))⟩=S2 at F ⊢;clear E u4 v4 fd hdb hgg;obtain⟨g5,u5,v5⟩:=id F.outer;obtain⟨g6,N,v6⟩:=id (F.row a om);obtain⟨g7,u7,v7⟩:=id (F.ext.has hC);have x5:g5 a=.sl 1 (gg a) 0 (n+1):=(v5 a C).trans (ai om);have x7:g7 a=.int .i64 (l a):=v7 a C;refine bF 10 kr ?_
  simp -dsimp only[go_sem,aa,D,Z,d,f,m,x,q,K,L,C,u5,x5,N,u7,x7,aT (om:a<1000000),ca]
  repeat refine an ?_
  refine⟨⟨a+1,om,rfl,gg,(F.put dc (om:a<a+1) N n (.int .i64 (l a))).congr fun r k _ _=>?_⟩,om⟩
  unfold GF;by_cases e:r=a/\k=n
  .rw[ai e,ai e.2,e.1]
  .rw[af e];by_cases z:r=a
   .rw[ai z,af (fun h=>e ⟨z,h⟩),af om]
   .rw[af z]
 obtain rfl:a=n:=om
 have hwpp:IntKind.i64.wrap ((p:Int)*p)=(p:Int)*p:=i64_in om om;have hwn:IntKind.i64.wrap (0-(p:Int))=-(p:Int):=by rw[DM];exact i64_in om om
 have hp0:¬((p:Int)=0):=om
 simp -dsimp only[go_sem,aa,d,q,K,L,C];refine aH (fun O S'=>∃j:Nat,j<=a/\O 1=.int .i64 p/\O 10=.int .i64 a/\O 11=aV a w/\O 12=.int .i64 i/\O 13=.int .i64 u/\O 15=.sl 1 bb 0 a/\O 17=.int .i64 j/\∃g',ft 29 2 1 S1 S' bb g' a (a+1) a (fun r k=>.int .i64 (GF a p i (fun j=>w j*u%p) l j r k))) (fun O S=>a-ca (O 17)) ?_ ?_
 .simp -dsimp only[go_sem,D,d,f,m,x,q];exact⟨0,om,rfl,g',E⟩
 clear D Z d f m x q K L E C;clear g' S' O;rintro O S' ⟨j,hj,D,d,f,m,x,q,P,g',E⟩;by_cases s:j<a
 .obtain⟨g5,u5,v5⟩:=id E.outer;obtain⟨g6,N,v6⟩:=id (E.row i o);have x5:g5 i=.sl 1 (g' i) 0 (a+1):=(v5 i o).trans (ai o);by_cases J:j=i
  .subst J;simp -dsimp only[go_sem,aa,D,d,f,m,x,q,P,s,eS,u5,x5,N,hwpp,(om:j<a+1),aT (om:j<1000000),ca]
   refine⟨⟨j+1,om,rfl,g',(E.put dc s N j (.int .i64 ((p:Int)*p))).congr fun r k _ _=>?_⟩,om⟩
   unfold GF jM;by_cases e:r=j/\k=j
   .rw[ai e,af (om:¬k=a),ai (om:k<j+1),ai e.2,ai e.1]
   .rw[af e];by_cases z:k=a
    .rw[ai z,ai z]
    .rw[af z,af z];by_cases e3:k<j
     .rw[ai e3,ai (om:k<j+1)]
     .rw[af e3];by_cases e4:k=j
      .rw[ai (om:k<j+1),ai e4,af (fun h=>e ⟨h,e4⟩)]
      .rw[af (om:¬k<j+1)]
  .obtain⟨g8,u8,v8⟩:=id (E.row j s);have x8:g5 j=.sl 1 (g' j) 0 (a+1):=(v5 j s).trans (ai s);simp -dsimp only[go_sem,aa,D,d,f,m,x,q,P,s,show(((j:Nat):Int)==((i:Nat):Int))=false by simp;omega,u5,x8,u8,(om:j<a+1)]
   have Q:=E.put dc s u8 j (.int .i64 (p:Int))
   generalize S'.upd (g' j) ⟨2,1,a+1,bR g8 j (.int .i64 (p:Int))⟩=S2 at Q ⊢;clear u5 v5 N v6 x5 u8 v8 x8;obtain⟨g5,u5,v5⟩:=id Q.outer;obtain⟨g6,N,v6⟩:=id (Q.row i o);have x5:g5 i=.sl 1 (g' i) 0 (a+1):=(v5 i o).trans (ai o);have hwj:=t j;have hm1:=kH (a:=w j) (b:=u) (A:=9973) (B:=9973) om om;have hm0:0<=w j*u:=cZ hwj.1 hur.1;have w1:IntKind.i64.wrap (w j*u)=w j*u:=i64_in om om;have w2:Int.tmod (w j*u) (p:Int)=w j*u%(p:Int):=aK hm0;have hq:=hqr j;have w3:IntKind.i64.wrap (w j*u%(p:Int))=w j*u%(p:Int):=i64_in om om;have hm2:=kH (a:=-(p:Int)) (b:=w j*u%(p:Int)) (A:=9973) (B:=9973) om om;have w4:IntKind.i64.wrap (-(p:Int)*(w j*u%(p:Int)))=-(p:Int)*(w j*u%(p:Int)):=i64_in om om;refine bF 17 kr ?_
   simp -dsimp only[go_sem,aa,D,d,f,m,x,q,P,aV,s,o,u5,x5,N,hwn,hp0,w1,w2,w4,(om:j<a+1),aT (om:j<1000000),ca]
   refine⟨⟨j+1,om,rfl,g',(Q.put dc o N j (.int .i64 (-(p:Int)*(w j*u%(p:Int))))).congr fun r k _ _=>?_⟩,om⟩
   unfold GF jM;by_cases z:k=a
   .rw[af (om:¬(r=i/\k=j)),af (om:¬(r=j/\k=j)),ai z,ai z]
   .by_cases e4:k=j
    .subst e4;by_cases e5:r=i
     .have e7:¬i=k:=fun h=>J h.symm;simp[z,J,e5,e7,xU]
     .by_cases e6:r=k
      .simp[z,J,e6]
      .simp[z,J,e5,e6]
    .rw[af (fun h=>e4 h.2),af (fun h=>e4 h.2),af z,af z];by_cases e3:k<j
     .rw[ai e3,ai (om:k<j+1)]
     .rw[af e3,af (om:¬k<j+1)]
 .obtain rfl:j=a:=om
  have hN:=E.imat (A:=Ae j p i (fun j=>w j*u%p) l) (fun r k _ R=>by rw[Mo R])
  have hsm:∀r k,r<j->k<j+1->(Ae j p i (fun j=>w j*u%p) l r k).natAbs<=100000000:=fun r k hr R=>CK om om (fun j _=>by have:=hqr j;omega) (fun a ha=>by have:=hlb a ha;omega) r k hr R
  generalize Ae j p i (fun j=>w j*u%p) l=G at *;simp -dsimp only[go_sem,aa,D,d,f,m,x,q,P,s];refine(Of_mf j (j+1) G h1 om om om (fun r k hr R=>by have:=hsm r k hr R;unfold Dn;omega)).pf.spec (fD.one hN.1.vr.va) ?_
  simp -dsimp only[go_sem,aa];obtain⟨hK,V⟩:=Rw j om;have hb:Bd (j+(j+1)) (j+1) 27 (pQ j G kd):=fun r k hr R=>by
   unfold pQ;split
   .rename_i hr2;have:=hsm r k hr2 R;show(G r k).natAbs<=2^27;omega
   .unfold kd;split<;>simp
  have hf:∀r,r<j->∃M,M≠0/\eU j (j+1) G (gk M r):=fun r _=>⟨(p:Int)*p,om,(Y _).2 (L0 r)⟩
  rcases Hu j 27 G h1 om hK V hb hf with⟨B,b1,b2,b3⟩|hno
  .have hNb:=hNB B b1 b2 fun y=>(b3 y).trans (Y y);refine(Ht j 27 G B h1 om hK V hb hf b1 b2 b3).call ?_;simp -dsimp only[go_sem,aa];refine(vu j j B h1 om h1 om (fun r k hr R=>by have:=hNb.ent W hr R;unfold jS;omega) _ _ (cI _ _)).mono ?_
   rintro _ S3 ⟨b3,g3,rfl,hM3⟩;simp -dsimp only[go_sem];exact⟨b3,rfl,g3,B,hNb,_,hE1.trans hN.2.1,hM3⟩
  .refine(hno.frame (cI _ _) (fun _ _ h=>h.elim)).mono ?_;rintro _ _ ⟨_,h,_⟩;exact h.elim

def MJ{a b:Int}:decide (0<lA a b)=decide (b<a):=by
 unfold lA;split
 .simp;omega
 .split<;>simp[*]
def Ix{k:Nat}(f:n<=16)(b:∀i j,i<n->j<n->nb (H i j) k)(c:∀i j,i<n->j<n->nb (B i j) k){i j:Nat}(d:i<n)(e:j<n):nb (li n H B i j) (k+k+10):=CH (fun t a=>(b i t d a).mul (c t j a e)) om n (ae n)
def FA(n p:Nat)(H B G:aJ)(q:1<=n)(hn:n<=8)(K:1<=p)(y:p<=9973)(L:∀i j,i<n->j<n->(H i j).natAbs<=176000)(E:∀i j,i<n->j<n->(B i j).natAbs<=100000000)(Q:∀i j,i<n->j<n->mm n (fun i j=>B j i) (mm n H B) i j/((p:Int)*p)=G i j):MF 44 [aD n n H,.int .i64 p,aD n n B] n n G:=by
 have C:∀i j,i<n->j<n->nb (H i j) 27:=fun i j d f=>by have:=L i j d f;unfold nb;omega
 have s:∀i j,i<n->j<n->nb (B i j) 27:=fun i j d f=>by have:=E i j d f;unfold nb;omega
 have M:∀i j,i<n->j<n->nb (li n H B i j) 100:=fun i j d f=>(Ix om C s d f).mono om;have R:∀i j,i<n->j<n->nb (li n (fun i j=>B j i) (li n H B) i j) 300:=fun i j d f=>(Ix (k:=100) (H:=fun i j=>B j i) om (fun a b T U=>(s b a U T).mono om) M d f).mono om;have V:1<=(p:Int)*p/\(p:Int)*p<=99460729:=by
  rw[<-bL];have a:=bs K K;have b:=bs y y;omega
 have F:IntKind.i64.wrap ((p:Int)*p)=(p:Int)*p:=i64_in om om;refine MF.of (jr func44 ntmps44 results44 ?_);simp -dsimp only[go_sem,aa];refine(B2 n n B q om q om (fun i j d f=>by have:=E i j d f;unfold Dn;omega)).call ?_
 simp -dsimp only[go_sem,aa];refine(pE n n B 27 q om q om s om).pf.call ?_;simp -dsimp only[go_sem,aa];refine(B2 n n H q om q om (fun i j d f=>by have:=L i j d f;unfold Dn;omega)).call ?_
 simp -dsimp only[go_sem,aa];refine(B2 n n B q om q om (fun i j d f=>by have:=E i j d f;unfold Dn;omega)).call ?_
 simp -dsimp only[go_sem,aa];refine(lT n n n H B 27 q om q om q om C s om).pf.call ?_;simp -dsimp only[go_sem,aa];refine(lT n n n (fun i j=>B j i) (li n H B) 100 q om q om q om (fun i j d f=>(s j i f d).mono om) M om).pf.call ?_;simp -dsimp only[go_sem,aa,aD];refine(zU _ n n om om).mono ?_;rintro _ S1 ⟨b,g,rfl,r⟩;have r:=r.1;generalize W:li n (fun i j=>B j i) (li n H B)=A at *;have I:∀i j,i<n->j<n->A i j/((p:Int)*p)=G i j:=fun i j d f=>by rw[<-W];exact Q i j d f
 simp -dsimp only[go_sem,aQ];refine aH (fun O S=>∃i:Nat,i<=n/\dA S b g n n (sw i (fun _ _=>0) G)/\O 1=.int .i64 p/\O 9=aQ n n A/\O 10=.sl 1 b 0 n/\O 32=.int .i64 n/\O 33=.int .i64 i) (fun O S=>n-ca (O 33)) ?_ ?_
 .simp -dsimp only[go_sem,aQ];exact⟨0,om,by rw[m9];exact r,rfl⟩
 clear r;rintro O S ⟨i,d,r,x,u,h,l,m⟩;by_cases o:i<n
 .simp -dsimp only[go_sem,aQ,u,h,l,m,o];refine aH (fun O S=>∃j:Nat,j<=n/\dA S b g n n (fun a c=>if a=i then(if c<j then G a c else 0)else sw i (fun _ _=>0) G a c)/\O 1=.int .i64 p/\O 9=aQ n n A/\O 10=.sl 1 b 0 n/\O 11=.int .i64 i/\O 32=.int .i64 n/\O 33=.int .i64 i/\O 37=.int .i64 n/\O 38=.int .i64 j) (fun O S=>n-ca (O 38)) ?_ ?_
  .simp -dsimp only[go_sem,aQ,x,u,h,l,m];refine⟨0,om,r.congr fun a c _ _=>?_,rfl⟩
   by_cases e:a=i
   .subst e;simp[sw]
   .simp[e]
  clear x u h l m r;rintro O S ⟨j,f,r,x,u,h,J,l,m,v,w⟩;by_cases t:j<n
  .obtain⟨X,Y,Z⟩:=r.outer;obtain⟨g2,N,v2⟩:=r.row i o;have x1:X i=.sl 2 (g i) 0 n:=Z i o;simp -dsimp only[go_sem,aQ,a8,x,u,h,l,m,v,w,t];refine bF 18 kr ?_
   simp -dsimp only[go_sem,aa,aQ,a8,x,u,h,J,l,m,v,w,o,t,Y,x1,N,F];refine⟨_,(gG (a:=(p:Int)*p) om om).pure',_,(nB (k:=300) (R i j o t) (show nb ((p:Int)*p) 300 by exact nb.mono (k:=27) (by unfold nb;omega) om) om om).pure',?_⟩
   rw[I i j o t];simp -dsimp only[go_sem,aT (om:j<1000000),ca]
   refine⟨⟨j+1,om,(r.set (j:=j) (z:=G i j) o N).congr fun a c _ _=>?_,rfl⟩,om⟩
   simp only[eV];by_cases e:a=i
   .subst e;by_cases P:c=j
    .subst P;simp
    .simp only[P,and_false,aP,aO];by_cases D:c<j
     .rw[ai D,ai om]
     .rw[af D,af om]
   .simp[e]
  .simp -dsimp only[go_sem,aQ,x,u,h,l,m,v,w,t,aT (om:i<1000000),ca]
   refine⟨⟨i+1,om,r.congr fun a c _ hc=>?_,rfl⟩,om⟩
   by_cases e:a=i
   .subst e;simp[sw];omega
   .simp only[e,aP,sw];by_cases D:a<i
    .rw[ai D,ai om]
    .rw[af D,af om]
 .obtain rfl:i=n:=om
  simp -dsimp only[go_sem,u,h,l,m,o];exact⟨b,rfl,g,pi r⟩
def wO(S:St)(n p:Nat)(H:aJ)(v:Nat->Nat)(w:fN n H)(K:kX (det n H) p)(x:sn p)(L:lG n p H v) :
  cE 15 [aD n n H,.int .i64 p,aV n (fun k=>v k)] S (fun r S'=>∃b g B S1,r=.tup [.sl 1 b 0 n,.int .i64 0]/\DH n p H v B/\eQ S S1/\iE S1 S' b g n n (DG n p H B)):=by
 have C:=w.one;have J:=p6 x;refine jr func15 ntmps15 results15 ?_;simp -dsimp only[go_sem,aa];refine(pL S n p H v w K x L).mono ?_;rintro _ S1 ⟨b,g,B,S0,rfl,D,E,y⟩;have M:=w.eight;have N:=y.1;have P:=E.trans y.2.1;simp -dsimp only[go_sem,aa,cK];have z:∀i j,i<n->j<n->(DG n p H B i j).natAbs<=1120325651456000:=fun i j l m=>D.gent w x l m;refine(FA n p H B (DG n p H B) C om om om (fun i j l m=>by have:=w.ent i j l m;omega) (fun i j l m=>by have:=D.ent x l m;have:=p6z x;omega) (fun i j l m=>by
  rw[<-oN];unfold DG;rw[ai ⟨l,m⟩])).pf.spec (fD.three (VA.refl _ _) (VA.refl _ _) N.vr.va) ?_
 generalize R:DG n p H B=Q at *;simp -dsimp only[go_sem,aQ];refine aH (fun O S'=>∃i:Nat,i<=n/\eQ S1 S'/\O 10=aQ n n Q/\O 31=aQ n n Q/\O 32=.int .i64 n/\O 33=.int .i64 i) (fun O S=>n-ca (O 33)) ?_ ?_
 .simp -dsimp only[go_sem,aQ];exact⟨0,om,eQ.refl _,rfl⟩
 rintro O S2 ⟨i,l,c,d,e,f,h⟩;by_cases o:i<n
 .simp -dsimp only[go_sem,aa,aQ,d,e,f,h,o];refine aH (fun O S'=>∃j:Nat,j<=n/\eQ S1 S'/\O 10=aQ n n Q/\O 31=aQ n n Q/\O 32=.int .i64 n/\O 33=.int .i64 i/\O 37=a8 n (Q i)/\O 38=.int .i64 n/\O 39=.int .i64 j) (fun O S=>n-ca (O 39)) ?_ ?_
  .simp -dsimp only[go_sem,aQ,a8,d,e,f,h];exact⟨0,om,c,rfl⟩
  clear c d e f h;rintro O S2 ⟨j,m,c,d,e,f,h,q,s,t⟩;by_cases u:j<n
  .have W:=z i j o u;have F:nb (Q i j) 64:=by unfold nb;omega
   simp -dsimp only[go_sem,aQ,a8,d,e,f,h,q,s,t,u];refine aG.intro fun T A=>?_;simp -dsimp only[go_sem,aa,bR];have G:=(c.upd (c.none A) ⟨50,2,1,fun _=>.big 0⟩).upd (c.none A) ⟨50,2,1,bR (fun _=>.big 0) 0 (.big (Q i j))⟩;refine(xC F om).call ?_;simp -dsimp only[go_sem,aa,bR];refine(gG (a:=4611686018427387904) om om).call ?_;simp -dsimp only[go_sem,aa,bR];refine(pg (k:=64) (a:=((Q i j).natAbs:Int)) (b:=4611686018427387904) (by unfold nb at *;omega) (by unfold nb;omega) om).call ?_
   simp -dsimp only[go_sem,aQ,a8,d,e,f,h,q,s,t,MJ,(om:¬((4611686018427387904:Int)<((Q i j).natAbs:Int))),aT (om:j<1000000),ca]
   exact⟨⟨j+1,om,G,rfl⟩,om⟩
  .simp -dsimp only[go_sem,aQ,a8,d,e,f,h,q,s,t,u,aT (om:i<1000000),ca]
   exact⟨⟨i+1,om,c,rfl⟩,om⟩
 .simp -dsimp only[go_sem,aa,aQ,d,e,f,h,o];refine(vu n n Q C om C om (fun i j l m=>by have:=z i j l m;unfold jS;omega) _ _ (cI _ _)).mono ?_
  rintro _ S3 ⟨U,V,rfl,I⟩;simp -dsimp only[go_sem];exact⟨U,rfl,V,B,D,_,P.trans c,by rw[R];exact I⟩

def bn.lst_congr(h:∀i,i<n->g i=g' i){v:Value}(a:bn w M (.lst es n g) v):bn w M (.lst es n g') v:=by
 simp only[bn]at a ⊢;obtain⟨A,c,e,f,k⟩:=a;refine⟨A,c,e,f,fun l=>?_⟩;obtain⟨b,off,m,o,p,q⟩:=k l;exact⟨b,off,m,o,p,fun j d=>by rw[<-h j d];exact q j d⟩
def aW.third(h:∀v,bn w M z v->bn w M z' v){vs:List Value}(d:aW w M [x,y,z] vs):aW w M [x,y,z'] vs:=by
 match vs,d with
 | [a,b,c],d =>
  simp only[aW]at d ⊢;exact⟨d.1,d.2.1,h c d.2.2.1,trivial⟩
def cE.frz{P:AV->Prop}(h:cE f args S (fun r S'=>∃z,(∀w v,ep w S'->bn w S'.dom r v->bn w S.dom z v)/\eQ S S'/\P z)):cE f args S (fun r S'=>P r/\S'=S):=by
 intro w vs b c;refine(h w vs b c).mono ?_;rintro e w' ⟨v,r,S1,rfl,⟨z,d,g,i⟩,j,a,k⟩;obtain⟨l,m⟩:=a.less g;exact⟨v,z,S,rfl,⟨i,rfl⟩,d w' v a j,l,k.weaken m⟩
def VR.frz{S' So:St}{r:AV}(h:VR So r z)(c:∀b X,So b=some X->S' b=some X)(d:∀b,So b≠ab->S b=ab)(w:World)(v:Value)(e:ep w S')(f:bn w S'.dom r v):bn w S.dom z v:=by
 obtain⟨g,i⟩:=e.less c;exact bn.turn (fun k _ a j=>a (d k j)) _ _ (h w v g (bn.turn (fun k _ a=>i k a) _ _ f))
def iE.freeze{P:AV->Prop}(h:cE f args S (fun r S'=>∃b g n B S1,r=.tup [.sl 1 b 0 n,.int .i64 0]/\eQ S S1/\iE S1 S' b g n n B/\P (.tup [aD n n B,.int .i64 0]))):cE f args S (fun r S'=>P r/\S'=S):=by
 refine cE.frz (h.mono ?_);rintro _ S' ⟨b,g,n,B,S1,rfl,j,a,l⟩;have m:S b=ab:=j.none a.2.2.1;have o:∀i,i<n->S (g i)=ab:=fun i k=>j.none (a.2.2.2 i k);refine⟨_,VR.frz (VR.tup2 a.1.only.1.vr (VR.mf rfl)) (jm S' b g n) fun c d=>?_,j.trans a.2.1,l⟩;unfold gL at d;split at d
 .rename_i e;rw[e];exact m
 .split at d
  .rename_i e;obtain⟨i,k,e⟩:=e;rw[e];exact o i k
  .exact absurd rfl d

def AP(f:Nat)(args:List AV)(c:Int):Prop:=∀S,k8 S->cE f args S (fun r S'=>r=.tup [.nil,.int .i64 c]/\eQ S S')
def B6{v:AV}(a:c≠0)(b:∀S,k8 S->cE 174 [h,.int .i64 p] S (fun r S'=>r=.int .i64 c/\eQ S S')):AP 121 [h,.int .i64 p,v] c:=fun S d=>by
 refine jr Qy TJ SY ?_;simp -dsimp only[go_sem,aa];refine(b S d).mono ?_;rintro _ S1 ⟨rfl,e⟩;simp -dsimp only[go_sem,aa,show(c != 0)=true by simpa using a]
 exact e
def Ky{v:AV}(a:∀S,k8 S->cE 174 [h,.int .i64 p] S (fun r S'=>r=.int .i64 0/\eQ S S'))(b:PF 175 [h,.int .i64 p,v] (.bool false)):AP 121 [h,.int .i64 p,v] 26:=fun S c=>by
 refine jr Qy TJ SY ?_;simp -dsimp only[go_sem,aa];refine(a S c).mono ?_;rintro _ S1 ⟨rfl,d⟩;simp -dsimp only[go_sem,aa,cK];refine b.call ?_;simp -dsimp only[go_sem,aa];exact d
def BQ(a:c≠0)(h:AP 121 [x,y,z] c):AP 59 [x,y,z] c:=fun S b=>by
 refine jr func59 ntmps59 results59 ?_;simp -dsimp only[go_sem,aa];refine(h S b).mono ?_;rintro _ S1 ⟨rfl,d⟩;simp -dsimp only[go_sem,aa,show(c != 0)=true by simpa using a]
 exact d
def Rj(a:c≠0)(h:AP 59 [x,y,z] c)(S:St)(b:k8 S):cE 41 [x,y,z] S (fun r S'=>r=.tup [.nil,.nil,.int .i64 c]/\eQ S S'):=by
 refine jr func41 ntmps41 results41 ?_;simp -dsimp only[go_sem,aa];refine(h S b).mono ?_;rintro _ S1 ⟨rfl,d⟩;simp -dsimp only[go_sem,aa,show(c != 0)=true by simpa using a]
 exact d
def KK(a:c≠0)(h:AP 59 [x,y,z] c):AP 23 [x,y,z] c:=fun S b=>by
 refine jr func23 ntmps23 results23 ?_;simp -dsimp only[go_sem,aa];refine(h S b).mono ?_;rintro _ S1 ⟨rfl,d⟩;simp -dsimp only[go_sem,aa,show(c != 0)=true by simpa using a]
 exact d
def Nc(a:c≠0)(h:AP 59 [x,y,z] c):AP 25 [x,y,z] c:=fun S b=>by
 refine jr func25 ntmps25 results25 ?_;simp -dsimp only[go_sem,aa];refine(Rj a h S b).mono ?_;rintro _ S1 ⟨rfl,d⟩;simp -dsimp only[go_sem,aa,show(c != 0)=true by simpa using a]
 exact d
def wI{v:AV}(a:c≠0)(b:PF 74 [h,.int .i64 p,.bool false] (.int .i64 c)):PF 33 [h,.int .i64 p,v] (.tup [.nil,.int .i64 c]):=by
 refine iQ func33 ntmps33 Tr ?_;simp -dsimp only[go_sem,aa];refine b.call ?_;simp -dsimp only[go_sem,aa,show(c != 0)=true by simpa using a]
 exact VR.mf rfl
def Fy{v:AV}(a:PF 74 [h,.int .i64 p,.bool false] (.int .i64 0))(b:PF 75 [h,.int .i64 p,v] (.bool false)):PF 33 [h,.int .i64 p,v] (.tup [.nil,.int .i64 26]):=by
 refine iQ func33 ntmps33 Tr ?_;simp -dsimp only[go_sem,aa];refine a.call ?_;simp -dsimp only[go_sem,aa,cK];refine b.call ?_;simp -dsimp only[go_sem,aa];exact VR.mf rfl
def wR(a:c≠0)(h:PF 33 [x,y,z] (.tup [.nil,.int .i64 c])):PF 24 [x,y,z] (.tup [.nil,.int .i64 c]):=by
 refine iQ func24 ntmps24 results24 ?_;simp -dsimp only[go_sem,aa];refine h.call ?_;simp -dsimp only[go_sem,aa,show(c != 0)=true by simpa using a]
 exact VR.mf rfl
def Hm(a:c≠0)(h:PF 24 [x,y,z] (.tup [.nil,.int .i64 c])):PF 15 [x,y,z] (.tup [.nil,.int .i64 c]):=by
 refine iQ func15 ntmps15 results15 ?_;simp -dsimp only[go_sem,aa];refine h.call ?_;simp -dsimp only[go_sem,aa,show(c != 0)=true by simpa using a]
 exact VR.mf rfl

def jH(m:Nat)(len:Nat->Nat)(A:aJ):AV:=.lst 1 m (fun i=>aV (len i) (A i))
def SL(m:Nat)(len:Nat->Nat):Prop:=1<=m/\m<=8/\∀i,i<m->len i=m
def EH(m:Nat)(len:Nat->Nat)(A:aJ)(o:m<=12)(h:¬SL m len):PF 107 [jH m len A] (.bool false):=by
 refine iQ func107 ntmps107 results107 ?_;by_cases p:m<1
 .simp -dsimp only[go_sem,aV,jH,show(m:Int)<1 by omega]
  exact VR.mf rfl
 by_cases q:8<m
 .simp -dsimp only[go_sem,aV,jH,(om:¬((m:Int)<1)),show(8:Int)<(m:Int) by omega]
  exact VR.mf rfl
 simp -dsimp only[go_sem,aV,jH,(om:¬((m:Int)<1)),(om:¬((8:Int)<(m:Int)))]
 refine aH (fun O S=>∃i:Nat,i<=m/\(∀a,a<i->len a=m)/\O 0=jH m len A/\O 3=.int .i64 m/\O 18=jH m len A/\O 19=.int .i64 m/\O 20=.int .i64 i) (fun O S=>m-ca (O 20)) ?_ ?_
 .simp -dsimp only[go_sem,aV,jH];exact⟨0,om,fun a j=>om,rfl⟩
 .rintro O S ⟨i,r,b,k,l,c,d,f⟩;by_cases g:i<m
  .by_cases n:len i=m
   .simp -dsimp only[go_sem,aV,jH,k,l,c,d,f,g,show(((len i:Nat):Int) != (m:Int))=false by rw[n];simp,aT (om:i<1000000),ca]
    refine⟨⟨i+1,om,fun a j=>?_,rfl⟩,om⟩
    by_cases e:a=i
    .rw[e];exact n
    .exact b a om
   .simp -dsimp only[go_sem,aV,jH,k,l,c,d,f,g,show(((len i:Nat):Int) != (m:Int))=true by simp;omega]
    exact VR.mf rfl
  .exact absurd ⟨om,om,fun a j=>b a om⟩ h
def xf(m:Nat)(len:Nat->Nat)(A:aJ)(a:m<=12)(h:¬SL m len):PF 48 [jH m len A] (.bool false):=by
 refine iQ func48 ntmps48 results48 ?_;simp -dsimp only[go_sem,aa];refine(EH m len A a h).call ?_;simp -dsimp only[go_sem];exact VR.mf rfl
def Du(m:Nat)(len:Nat->Nat)(A:aJ)(t:m<=12)(h:m<1∨∃i,i<m/\(len i<1∨len i≠len 0))(n:∀i,i<m->len i<=12):PF 55 [jH m len A] (.tup [.nil,.bool false]):=by
 refine iQ func55 ntmps55 results55 ?_;by_cases o:m<1
 .simp -dsimp only[go_sem,aV,jH,show(m:Int)<1 by omega]
  exact VR.tup (by simp[pq])
 have h':∃i,i<m/\(len i<1∨len i≠len 0):=h.resolve_left o;have g:0<m:=om
 simp -dsimp only[go_sem,aV,jH,(om:¬((m:Int)<1)),(om:¬((16:Int)<(m:Int)))]
 refine aH (fun O S=>∃k:Nat,k<=m/\(∀a,a<k->¬(len a<1∨len a≠len 0))/\O 0=jH m len A/\O 17=jH m len A/\O 18=.int .i64 m/\O 19=.int .i64 k) (fun O S=>m-ca (O 19)) ?_ ?_
 .simp -dsimp only[go_sem,aV,jH];exact⟨0,om,fun a p=>om,rfl⟩
 .rintro O S ⟨k,u,j,l,c,d,f⟩;by_cases b:k<m
  .have q:=n k b;by_cases v:len k<1
   .simp -dsimp only[go_sem,jH,aV,l,c,d,f,b,show((len k:Nat):Int)<1 by omega]
    exact VR.tup (by simp[pq])
   by_cases r:len k=len 0
   .simp -dsimp only[go_sem,jH,aV,l,c,d,f,b,(om:¬(((len k:Nat):Int)<1)),(om:¬((16:Int)<((len k:Nat):Int))),show(((len k:Nat):Int) != ((len 0:Nat):Int))=false by rw[r];simp,jP,show(0:Int)<(m:Int) by omega,g,aT (om:k<1000000),ca]
    refine⟨⟨k+1,om,fun a p=>?_,rfl⟩,om⟩
    by_cases e:a=k
    .rw[e];omega
    .exact j a om
   .simp -dsimp only[go_sem,jH,aV,l,c,d,f,b,(om:¬(((len k:Nat):Int)<1)),(om:¬((16:Int)<((len k:Nat):Int))),show(((len k:Nat):Int) != ((len 0:Nat):Int))=true by simp;omega,jP,show(0:Int)<(m:Int) by omega,g]
    exact VR.tup (by simp[pq])
  .obtain⟨i,w,s⟩:=h';exact absurd s (j i om)
def Jq(n m:Nat)(A:aJ)(a:1<=n)(b:n<=16)(c:1<=m)(d:m<=16)(h:n≠m):PF 115 [aQ n m A] (.tup [.int .i64 0,.bool false]):=by
 refine iQ func115 ntmps115 results115 ?_;simp -dsimp only[go_sem];refine(oK n m A a b c d).call ?_;simp -dsimp only[go_sem,show((n:Int) != (m:Int))=true by simp;omega]
 exact VR.tup (by simp[pq])
def zV(n m:Nat)(A:aJ)(a:1<=n)(b:n<=16)(c:1<=m)(d:m<=16)(h:n≠m∨8<n):PF 56 [aQ n m A] (.int .i64 3):=by
 refine iQ func56 ntmps56 Tq ?_;simp -dsimp only[go_sem,aa];by_cases e:n=m
 .subst e;refine(qQ n A a b).call ?_;simp -dsimp only[go_sem,aa,show(8:Int)<n by omega]
  exact VR.mf rfl
 .refine(Jq n m A a b c d e).call ?_;simp -dsimp only[go_sem,aa];exact VR.mf rfl
def vI(n m:Nat)(A:aJ)(a:1<=n)(c:n<=16)(d:1<=m)(e:m<=16)(h:n≠m∨8<n)(f:∀i j,i<n->j<m->Dn (A i j)):PF 21 [aD n m A] (.bool false):=by
 refine iQ func21 ntmps21 results21 ?_;simp -dsimp only[go_sem,aa];refine(pK _ n m A a c d e f).mono ?_;rintro _ S1 ⟨b,g,rfl,k⟩;simp -dsimp only[go_sem,aa];refine(zV n m A a c d e h).spec (fD.cons k.vr.va fD.nil) ?_;simp -dsimp only[go_sem,aa];exact VR.mf rfl
def aW.one(h:∀v,bn w M z v->bn w M z' v){vs:List Value}(b:aW w M [z] vs):aW w M [z'] vs:=by
 match vs,b with
 | [a],b =>
  simp only[aW]at b ⊢;exact⟨h a b.1,trivial⟩
def xi(m:Nat)(len:Nat->Nat)(A:aJ)(l:m<=12)(g:∀i,i<m->len i<=12)(h:¬SL m len)(n:∀i j,i<m->j<len i->Dn (A i j)):PF 21 [jH m len A] (.bool false):=by
 by_cases d:m<1∨∃i,i<m/\(len i<1∨len i≠len 0)
 .refine iQ func21 ntmps21 results21 ?_;simp -dsimp only[go_sem,aa];refine(Du m len A l d g).call ?_;simp -dsimp only[go_sem,aa];exact VR.mf rfl
 .have c:1<=m:=om
  have a:∀i,i<m->len i=len 0:=fun i b=>dZ fun e=>d (bO ⟨i,b,bO e⟩);have f:1<=len 0:=by
   rcases aA (len 0) 1 with e|e
   .exact absurd (bO ⟨0,c,bM e⟩) d
   .exact e
  have k:=g 0 c;have o:=vI m (len 0) A c om f om (by
   rcases aA 8 m with e|e
   .exact bO e
   .refine bM fun p=>h ⟨c,e,fun i b=>(a i b).trans p.symm⟩) (fun i j b q=>n i j b (by rw[a i b];exact q))
  exact fun w vs r s=>o w vs r (aW.one (fun v t=>bn.lst_congr (fun i b=>by rw[a i b]) t) s)
def J2(m:Nat)(len:Nat->Nat)(A:aJ)(p:Int)(a:m<=12)(h:¬SL m len)(S:St)(_hG:k8 S):cE 174 [jH m len A,.int .i64 p] S (fun r S'=>r=.int .i64 6/\eQ S S'):=by
 refine jr func174 ntmps174 results174 ?_;simp -dsimp only[go_sem,aa];refine(xf m len A a h).call ?_;simp -dsimp only[go_sem,aa];exact eQ.refl S
def GV(m:Nat)(len:Nat->Nat)(A:aJ)(p:Int)(a:m<=12)(b:∀i,i<m->len i<=12)(h:¬SL m len)(c:∀i j,i<m->j<len i->Dn (A i j)):PF 74 [jH m len A,.int .i64 p,.bool false] (.int .i64 6):=by
 refine iQ func74 ntmps74 results74 ?_;simp -dsimp only[go_sem,aa];refine(xi m len A a b h c).call ?_;simp -dsimp only[go_sem,aa];exact VR.mf rfl

def BX(n m:Nat)(A:aJ)(p:n<=16)(q:m<=16):PF 20 [aD n m A,aD n m A] (.bool true):=by
 refine iQ func20 ntmps20 results20 ?_;simp -dsimp only[go_sem,aD,aV,cK];refine fq (fun O S=>∃i:Nat,i<=n/\O 0=aD n m A/\O 1=aD n m A/\O 13=.int .i64 n/\O 14=.int .i64 i) (fun O S=>n-ca (O 14)) ?_ ?_
 .simp -dsimp only[go_sem,aD,aV];exact⟨0,om,rfl⟩
 rintro Q' k O S ⟨i,r,g,h,a,b⟩;by_cases c:i<n
 .simp -dsimp only[go_sem,a,b,c,aD,aV];refine bF 11 kr ?_
  simp -dsimp only[go_sem,aa,g,h,c,aD,aV,cK];refine fq (fun O S=>∃j:Nat,j<=m/\O 0=aD n m A/\O 1=aD n m A/\O 5=.int .i64 i/\O 13=.int .i64 n/\O 14=.int .i64 i/\O 32=.int .i64 m/\O 33=.int .i64 j) (fun O S=>m-ca (O 33)) ?_ ?_
  .simp -dsimp only[go_sem,g,h,a,b,aD,aV];exact⟨0,om,rfl⟩
  clear g h a b;clear O S;rintro Q2 l O S ⟨j,s,g,h,o,a,b,d,e⟩;by_cases f:j<m
  .simp -dsimp only[go_sem,d,e,f,aD,aV];refine bF 15 kr ?_
   simp -dsimp only[go_sem,aa,g,h,o,a,b,d,e,c,f,aD,aV,cK,aT (om:j<1000000),ca]
   exact⟨⟨j+1,om,rfl⟩,om⟩
  .simp -dsimp only[go_sem,d,e,f];rw[l];simp -dsimp only[go_sem,g,h,a,b,aT (om:i<1000000),ca]
   exact⟨⟨i+1,om,rfl,rfl,rfl⟩,om⟩
 .simp -dsimp only[go_sem,a,b,c];rw[k];simp -dsimp only[go_sem];exact VR.mf rfl
def tK:PF 20 [.nil,.nil] (.bool true):=by
 refine iQ func20 ntmps20 results20 ?_;simp -dsimp only[go_sem,show((0:Int) != 0)=false from rfl];refine aH (fun O S=>O 13=.int .i64 0/\O 14=.int .i64 0) (fun O S=>0) ?_ ?_
 .simp -dsimp only[go_sem]
 .rintro O S ⟨a,b⟩;simp -dsimp only[go_sem,a,b,show decide ((0:Int)<0)=false by decide]
  exact VR.mf rfl
def Nz(f:Nat)(args:List AV)(z:AV):Prop:=∀S,k8 S->cE f args S (fun r S'=>r=z/\eQ S S')
def PF.ge(h:PF f args z):Nz f args z:=fun S _=>h.call ⟨rfl,eQ.refl S⟩
def aW.first3(h:∀v,bn w M z v->bn w M z' v){vs:List Value}(d:aW w M [z,x,y] vs):aW w M [z',x,y] vs:=by
 match vs,d with
 | [a,b,c],d =>
  simp only[aW]at d ⊢;exact⟨h a d.1,d.2⟩
def xl(h:AV)(p:Int)(v:AV):Prop:=∃(a x:AV) (e g:Int),Nz 23 [h,.int .i64 p,v] (.tup [a,.int .i64 e])/\Nz 24 [h,.int .i64 p,v] (.tup [a,.int .i64 e])/\Nz 25 [h,.int .i64 p,v] (.tup [x,.int .i64 g])/\Nz 15 [h,.int .i64 p,v] (.tup [x,.int .i64 g])/\PF 20 [a,a] (.bool true)/\PF 20 [x,x] (.bool true)
def xl.first{h' v:AV}(b:xl h p v)(c:∀w M u,bn w M h' u->bn w M h u):xl h' p v:=by
 obtain⟨a,x,e,g,d,i,j,l,m,n⟩:=b;have k:∀f z,Nz f [h,.int .i64 p,v] z->Nz f [h',.int .i64 p,v] z:=fun f z o S q w vs r s=>o S q w vs r (aW.first3 (c _ _) s);exact⟨a,x,e,g,k _ _ d,k _ _ i,k _ _ j,k _ _ l,m,n⟩
def xl.third{v v':AV}(b:xl h p v)(c:∀w M u,bn w M v' u->bn w M v u):xl h p v':=by
 obtain⟨a,x,e,g,d,i,j,l,m,n⟩:=b;have k:∀f z,Nz f [h,.int .i64 p,v] z->Nz f [h,.int .i64 p,v'] z:=fun f z o S q w vs r s=>o S q w vs r (aW.third (c _ _) s);exact⟨a,x,e,g,k _ _ d,k _ _ i,k _ _ j,k _ _ l,m,n⟩
def Ac{v:AV}(a:c≠0)(b:AP 121 [h,.int .i64 p,v] c)(d:PF 33 [h,.int .i64 p,v] (.tup [.nil,.int .i64 c])):xl h p v :=
 ⟨.nil,.nil,c,c,KK a (BQ a b),(wR a d).ge,Nc a (BQ a b),(Hm a (wR a d)).ge,tK,tK⟩
def Bz{p:Nat}{B':aJ}(h:∀i j,i<n->j<n->B i j=B' i j):DG n p H B=DG n p H B':=by
 funext i j;unfold DG;split
 .rename_i a;congr 1;exact qv (fun k b=>qv (fun l c=>h l i c a.1) fun _ _=>rfl) fun k b=>h k j b a.2
 .rfl
def KF{p:Nat}{v:Nat->Nat}(c:fN n H)(q:kX (det n H) p)(a:sn p)(s:lG n p H v):xl (aD n n H) p (aV n (fun k=>v k)):=by
 have x:=c.eight;by_cases d:∃B,DH n p H v B
 .obtain⟨B0,t⟩:=d;have frz:∀(f:Nat) (Z:aJ),(∀S,k8 S->cE f [aD n n H,.int .i64 p,aV n (fun k=>v k)] S (fun r S'=>∃b g B S1,r=.tup [.sl 1 b 0 n,.int .i64 0]/\eQ S S1/\iE S1 S' b g n n B/\∀i j,i<n->j<n->B i j=Z i j))->Nz f [aD n n H,.int .i64 p,aV n (fun k=>v k)] (.tup [aD n n Z,.int .i64 0]):=fun f Z h S l =>
   (iE.freeze (P:=fun r=>r=.tup [aD n n Z,.int .i64 0]) ((h S l).mono fun r S' ⟨b,g,B,S1,e,m,o,u⟩=>⟨b,g,n,Z,S1,e,m,o.congr u,rfl⟩)).mono fun r S' ⟨e,w⟩=>⟨e,by rw[w];exact eQ.refl S⟩
  refine⟨aD n n B0,aD n n (DG n p H B0),0,0,frz 23 B0 fun S l=>?_,frz 24 B0 fun S l=>?_,frz 25 _ fun S l=>?_,frz 15 _ fun S l=>?_,BX n n B0 om om,BX n n _ om om⟩
  .exact(tZ S n p H v c q a s l).mono fun r S' ⟨b,g,B,S1,e,d,m,o⟩=>⟨b,g,B,S1,e,m,o,(d.nbB a).uniq c a t⟩
  .exact(pL S n p H v c q a s).mono fun r S' ⟨b,g,B,S1,e,d,m,o⟩=>⟨b,g,B,S1,e,m,o,d.uniq c a t⟩
  .exact(wN S n p H v c q a s l).mono fun r S' ⟨b,g,B,S1,e,d,m,o⟩=>⟨b,g,_,S1,e,m,o,fun i j _ _=>by rw[Bz ((d.nbB a).uniq c a t)]⟩
  .exact(wO S n p H v c q a s).mono fun r S' ⟨b,g,B,S1,e,d,m,o⟩=>⟨b,g,_,S1,e,m,o,fun i j _ _=>by rw[Bz (d.uniq c a t)]⟩
 .refine⟨.nil,.nil,0,0,fun S l=>?_,fun S l=>?_,fun S l=>?_,fun S l=>?_,tK,tK⟩
  .exact(tZ S n p H v c q a s l).mono fun r S' ⟨b,g,B,S1,e,h,m,o⟩=>absurd ⟨B,h.nbB a⟩ d
  .exact(pL S n p H v c q a s).mono fun r S' ⟨b,g,B,S1,e,h,m,o⟩=>absurd ⟨B,h⟩ d
  .exact(wN S n p H v c q a s l).mono fun r S' ⟨b,g,B,S1,e,h,m,o⟩=>absurd ⟨B,h.nbB a⟩ d
  .exact(wO S n p H v c q a s).mono fun r S' ⟨b,g,B,S1,e,h,m,o⟩=>absurd ⟨B,h⟩ d
theorem wh{v v':Nat->Int}:∀{n:Nat},(∀i,i<n->v i=v' i)->ix v n=ix v' n
 | 0,_=>rfl
 | n+1,h=>by simp only[ix];rw[wh fun i a=>h i om,h n om]
def CF(h:∀i,i<n->v i=v' i):eJ n H v n=eJ n H v' n:=by
 unfold eJ;exact aF fun i a=>by rw[h i a,aF fun j b=>by rw[h j b]]
def z0.nat{p:Nat}(h:z0 n p H v):lG n p H (fun k=>(v k).toNat)/\∀i,i<n->v i=(((v i).toNat:Nat):Int):=by
 have a:∀i,i<n->v i=(((v i).toNat:Nat):Int):=fun i b=>by have:=h.1 i b;omega
 exact⟨⟨fun i b=>by have:=h.1 i b;omega,by rw[<-wh a];exact h.2.1,by rw[<-CF a];exact h.2.2⟩,a⟩
def JO(h:pO n H p=0):fN n H/\pY p/\¬det n H%p=0:=by
 unfold pO at h;split at h
 .rename_i a;split at h
  .rename_i b;exact⟨a,b⟩
  .omega
 .omega
def I7{l:Nat}(e:1<=n)(d:n<=8)(m:∀i j,i<n->j<n->-9223372036854775808<=H i j/\H i j<=9223372036854775807):xl (aD n n H) p (aV l v):=by
 have f:=fun S o=>BO S n H p e d o;have g:=zK n p H e d m;by_cases b:pO n H p=0
 .obtain⟨r,s,t⟩:=JO b;obtain⟨q,rfl,a⟩:=s.nat;rw[b]at f g;by_cases k:l=n/\z0 n q H v
  .obtain⟨rfl,x⟩:=k;obtain⟨y,z⟩:=x.nat;exact(KF r ⟨a.2.1,a.odd,a.1,t⟩ a y).third fun w M u A=>bn.lst_congr (fun i B=>by rw[z i B]) A
  .refine Ac (c:=26) dc (Ky f (GB n l q H v false e d (by have:=a.2.1;omega) a.2.2 ?_)) (Fy g (yG n l q H v false d (by have:=a.2.1;omega) (by have:=a.2.2;omega) ?_))
   .exact⟨(fun h=>by cases h),fun h=>absurd h k⟩
   .exact⟨(fun h=>by cases h),fun h=>absurd h k⟩
 .exact Ac b (B6 b f) (wI b g)
def Nm{m l:Nat}(d:m<=12)(f:∀i,i<m->len i<=12)(e:∀i j,i<m->j<len i->Dn (A i j)):xl (jH m len A) p (aV l v):=by
 by_cases h:SL m len
 .obtain⟨g,k,a⟩:=h;refine(I7 (n:=m) (l:=l) (H:=A) (p:=p) (v:=v) g k fun i j b o=>e i j b (by rw[a i b];exact o)).first fun w M u q=>bn.lst_congr (fun i b=>by rw[a i b]) q
 .exact Ac (c:=6) dc (B6 dc fun S r=>J2 m len A p d h S r) (wI dc (GV m len A p d f h e))

def EF(m:Nat)(len:Nat->Nat)(A:aJ)(β:Bool)(hβ:β=true↔12<m∨∃i,i<m/\12<len i):PF 11 [jH m len A] (.bool β):=by
 refine iQ func11 ntmps11 results11 ?_;by_cases j:12<m
 .simp -dsimp only[go_sem,jH,show(12:Int)<(m:Int) by omega]
  rw[hβ.2 (bM j)];exact VR.mf rfl
 simp -dsimp only[go_sem,jH,(om:¬((12:Int)<(m:Int)))]
 refine aH (fun O S=>∃i:Nat,i<=m/\(∀a,a<i->¬12<len a)/\O 8=jH m len A/\O 9=.int .i64 m/\O 10=.int .i64 i) (fun O S=>m-ca (O 10)) ?_ ?_
 .simp -dsimp only[go_sem,jH];exact⟨0,om,fun a l=>om,rfl⟩
 .rintro O S ⟨i,p,d,f,g,c⟩;by_cases b:i<m
  .by_cases k:12<len i
   .simp -dsimp only[go_sem,aV,jH,f,g,c,b,show(12:Int)<((len i:Nat):Int) by omega]
    rw[hβ.2 (bO ⟨i,b,k⟩)];exact VR.mf rfl
   .simp -dsimp only[go_sem,aV,jH,f,g,c,b,(om:¬((12:Int)<((len i:Nat):Int))),aT (om:i<1000000),ca]
    refine⟨⟨i+1,om,fun a l=>?_,rfl⟩,om⟩
    by_cases e:a=i
    .rw[e];exact k
    .exact d a om
  .obtain rfl:i=m:=om
   simp -dsimp only[go_sem,f,g,c,b];rw[dW hβ fun h=>by
    rcases h with h|⟨a,n,o⟩
    .exact j h
    .exact d a n o]
   exact VR.mf rfl
def On(h:bn w M .nil u):bn w M (.lst es 0 g) u:=by
 simp only[bn]at h ⊢;exact⟨none,0,h,ae _,fun h=>absurd h (cN _)⟩
def MadeD(r:AV):Prop:=∃(n p l:Nat) (H:aJ) (v:Nat->Int) (ok:Bool),fN n H/\r=.tup [aD n n H,.int .i64 p,aV l v,.bool ok]
def JG(S0:St)(d k L:Nat)(nums:Nat->Int)(Lb:Nat)(base:Nat->AV)(q t:Nat)(o:d<256)(j:k<256)(D:q<256)(E:t<65536)(hnums:∀i,i<L->-128<=nums i/\nums i<=127) :
  cE 13 [ww d k L nums Lb base q t,.int .i64 5] S0 (fun r S'=>MadeD r/\S'=S0):=by
 refine cE.frz ((JF S0 d k L nums Lb base q t o j D E hnums).mono ?_);rintro r S' ⟨s,n,H,p,B,M,N,F⟩;have o:∀k,S0.dom k->S'.dom k:=fun k j=>by
  unfold St.dom at j ⊢
  cases e:S0 k with
  | none=>exact absurd e j
  | some X=>rw[s k X e];simp
 rcases F with rfl|⟨c,v,rfl,G,I,O⟩
 .refine⟨_,fun w u C l=>?_,s,n,p,0,H,fun _=>0,false,B,rfl⟩;simp only[bn]at l;obtain⟨vs,m,f⟩:=l;simp only[bn];refine⟨vs,m,?_⟩
  match vs,f with
  | [a,b,c,d],f =>
   simp only[aW]at f ⊢;obtain⟨x,y,z,A,_⟩:=f;exact⟨bn.turn (fun k _ j=>o k j) _ _ x,by simpa [bn]using y,On (by simpa [bn]using z),by simpa [bn]using A,trivial⟩
 .refine⟨_,fun w u C l=>?_,s,n,p,n,H,fun k=>v k,true,B,rfl⟩;have J:tT (fun b=>if b=c then S' b else none) c n (fun k=>v k):=by
   obtain⟨g,m,f⟩:=G;exact⟨g,by dsimp only;rw[ai rfl];exact m,f⟩
  have K:=J.vr.frz (S:=S0) (S':=S') (fun b X h=>by
   split at h
   .exact h
   .cases h) (fun b h=>by
   split at h
   .rename_i e;rw[e];exact I
   .exact absurd rfl h)
  simp only[bn]at l;obtain⟨vs,m,f⟩:=l;simp only[bn];refine⟨vs,m,?_⟩
  match vs,f with
  | [a,b,c',d],f =>
   simp only[aW]at f ⊢;obtain⟨x,y,z,A,_⟩:=f;exact⟨bn.turn (fun k _ j=>o k j) _ _ x,by simpa [bn]using y,K w c' C z,by simpa [bn]using A,trivial⟩
def JL(o:∀S,k8 S->cE 12 [] S (fun r S'=>r=.bool true/\eQ S S'))(S0:St)(P:k8 S0)(d k L:Nat)(nums:Nat->Int)(Lb:Nat)(base:Nat->AV)(q t:Nat)(Q:d<256)(R:k<256)(T:q<256)(U:t<65536)(hnums:∀i,i<L->-128<=nums i/\nums i<=127)(m:Nat)(len:Nat->Nat)(A:aJ)(p:Int)(l:Nat)(v:Nat->Int)(mk:Bool)(V:∀i j,i<m->j<len i->Dn (A i j)) :
  cE 7 [ww d k L nums Lb base q t,jH m len A,.int .i64 p,aV l v,.bool mk] S0 (fun r S'=>r=.bool true/\eQ S0 S'):=by
 refine jr func7 ntmps7 results7 ?_;simp -dsimp only[go_sem,aa,ww,ee,bH,bW,cC,cW];refine aG.intro fun W X=>?_;have f:eQ S0 (S0.upd W ⟨27,1,6,fun j=>[AV.int .u8 d,.int .u8 k,.lst 1 L (fun i=>.int .i8 (nums i)),.lst 1 Lb base,.int .u8 q,.int .u16 t].getD j .any⟩):=(eQ.refl S0).upd X _;have c:=P.ext f;by_cases C:12<m∨∃i,i<m/\12<len i
 .refine(EF m len A true ⟨fun _=>C,fun _=>rfl⟩).call ?_;simp -dsimp only[go_sem,aa,jH,aV];refine(o _ c).mono ?_;rintro _ S2 ⟨rfl,b⟩;simp -dsimp only[go_sem];exact f.trans b
 refine(EF m len A false ⟨(fun h=>by cases h),fun h=>absurd h C⟩).call ?_
 by_cases Z:12<l
 .simp -dsimp only[go_sem,aa,jH,aV,show(12:Int)<(l:Int) by omega]
  refine(o _ c).mono ?_;rintro _ S2 ⟨rfl,b⟩;simp -dsimp only[go_sem];exact f.trans b
 simp -dsimp only[go_sem,aa,jH,aV,(om:¬(12:Int)<(l:Int))]
 cases mk
 case' false =>
  simp -dsimp only[go_sem,aa];have D:xl (jH m len A) p (aV l v):=Nm om (fun i E=>by rcases aA 12 (len i)with h|h;exact absurd (bO ⟨i,E,h⟩) C;exact h) V
  obtain⟨a,x,e,g,F,J,K,M,N,O⟩:=D;refine(F _ c).mono ?_
 case' true =>
  simp -dsimp only[go_sem,aa,ee,bI,bB];refine(JG _ d k L nums Lb base q t Q R T U hnums).mono ?_;rintro _ _ ⟨⟨n,p,l,H,v,ok,G,rfl⟩,rfl⟩;have D:xl (aD n n H) p (aV l v):=I7 G.one G.eight fun i j E Y=>by have:=G.ent i j E Y;omega
  simp -dsimp only[go_sem,aa];obtain⟨a,x,e,g,F,J,K,M,N,O⟩:=D;refine(F _ c).mono ?_
 all_goals
  rintro _ S2 ⟨rfl,b⟩;have s:=c.ext b;simp -dsimp only[go_sem,aa];refine(J _ s).mono ?_;rintro _ S3 ⟨rfl,u⟩;have w:=s.ext u;simp -dsimp only[go_sem,aa];refine(K _ w).mono ?_;rintro _ S4 ⟨rfl,y⟩;have z:=w.ext y;simp -dsimp only[go_sem,aa];refine(M _ z).mono ?_;rintro _ S5 ⟨rfl,B⟩;simp -dsimp only[go_sem,aa,eS];refine N.call ?_;simp -dsimp only[go_sem,aa];refine O.call ?_;simp -dsimp only[go_sem,aa];refine(o _ (z.ext B)).mono ?_;rintro _ S6 ⟨rfl,I⟩;simp -dsimp only[go_sem];exact((((f.trans b).trans u).trans y).trans B).trans I

end Go.Proofs.YtdobfmlmenaajaaGreatDoor
