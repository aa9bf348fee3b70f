/-
  Lemmas for NeighbourBack.
-/
import Derived.Test.YtdobfmlmenaajaaGreatDoorB13
namespace Go.Proofs.YtdobfmlmenaajaaGreatDoor
open Go.RowKit Tryz
open _root_.Classical renaming choose→fP
open _root_.Int renaming tmod→et
open _root_.Option renaming none→ae
set_option maxHeartbeats 6400000
set_option maxRecDepth 4096
set_option linter.all false
attribute [local go_sem] Nat.reduceAdd Nat.reduceEqDiff Nat.reduceLeDiff Nat.reduceLT reduceCtorEq Int.ofNat_lt decide_true decide_false Int.zero_le_ofNat
attribute [local go_sem ↓] reduceIte
variable{h y z:AV}{K:AV->St->Prop}{Q:AX->Tm->St->Prop}{β:Bool}{a q u x:Int}{args:List AV}{N X b c f i j k m n p r s:Nat}{g g':Nat->AV}{v v' w:Nat->Int}{M:Nat->Prop}{S:St}{O:Tm}{G:Type}{A B H U:az}{l:gP}
def L6{p:Nat->Prop}(h:∃n,p n):∃n,p n/\∀m,p m->n<=m:=by
 obtain⟨n,c⟩:=h
 induction n using Nat.strongRecOn with
 | _ n ih =>
  by_cases b:∃m,m<n/\p m
  .obtain⟨m,a,d⟩:=b;exact ih m a d
  .exact⟨n,c,fun m h=>by
    rcases aB m n with a|a
    .exact absurd ⟨m,a,h⟩ b
    .exact a⟩
def MZ{c:Code}(I:G->Tm->St->Prop)(m:G->Nat)(l:∃g,I g O S)
  (n:∀Q',Q'=Q->∀g O S,I g O S->∀R:Tm->St->Prop,(∀g' O' S',I g' O' S'->m g'<m g->R O' S')->Aw c (AX.seq R Q') O S):Aw (.loop c) Q O S:=by
 classical
 have d:∀O S,(∃g,I g O S)->∃k,(∃g,I g O S/\m g=k)/\∀j,(∃g,I g O S/\m g=j)->k<=j:=fun O S ⟨g,e⟩=>L6 ⟨m g,g,e,rfl⟩;refine aC (fun O S=>∃g,I g O S) (fun O S=>if h:∃g,I g O S then fP (d O S h)else 0) l ?_
 intro O S i;obtain⟨⟨g,e,o⟩,_⟩:=dj (d O S i);refine n Q rfl g O S e _ ?_;intro g' O' S' b f;have a:∃g,I g O' S':=⟨g',b⟩;refine⟨a,?_⟩;rw[Td i,Td a,<-o];exact dG ((dj (d O' S' a)).2 _ ⟨g',b,rfl⟩) f
def qO(n:Nat)(H U:az):az:=fun r k=>if r<n then H r k else U (r-n) k
def gV(h:r<n)(k:Nat):qO n H U r k=H r k:=aj h
def Rv{row:Nat}(h:row<n):qO n (BX (kw H c j (H row c/H row j)) c j) (BX (kw U c j (H row c/H row j)) c j)=Le (qO n H U) row c j:=by
 funext r k;simp only[qO,Le,BX,kw,h,aH];split<;>rfl
def Pf:qO n (lY H c) (lY U c)=lY (qO n H U) c:=by
 funext r k;simp only[qO,lY];split<;>rfl
def Pe:qO n (kw H s p q) (kw U s p q)=kw (qO n H U) s p q:=by
 funext r k;simp only[qO,kw];split<;>rfl
def Bd.hn{K:Nat}(h:Bd (n+m) m K (qO n H U)){i j:Nat}(b:i<n)(c:j<m):nb (H i j) (K+1):=by
 have d:=h i j om c;rw[gV b]at d;unfold nb;rw[bZ];have:=iO (a:=2) (n:=K) om;omega
def Bd.un{K:Nat}(h:Bd (n+m) m K (qO n H U)){i j:Nat}(d:i<m)(c:j<m):nb (U i j) (K+1):=by
 have b:=h (n+i) j om c;unfold qO at b;rw[ah om,(om:n+i-n=i)]at b
 unfold nb;rw[bZ];have:=iO (a:=2) (n:=K) om;omega
def GaM(S:St)(bp bh:Nat)(gh:Nat->Nat)(bu:Nat)(gu:Nat->Nat)(n m K b row c j:Nat)(A0:az):Prop :=
 ∃H1 U1,jy S bp bh gh bu gu n m H1 U1/\Lk n m row c j A0 (qO n H1 U1)/\Bd (n+m) m K (qO n H1 U1)/\∀k,c<=k->k<m->(qO n H1 U1 row k).natAbs<=2^b
def GaR(S:St)(bp bh:Nat)(gh:Nat->Nat)(bu:Nat)(gu:Nat->Nat)(n m K b row c:Nat)(A0:az):Prop :=
 ∃H1 U1,jy S bp bh gh bu gu n m H1 U1/\Lk n m row c m A0 (qO n H1 U1)/\Bd (n+m) m K (qO n H1 U1)/\(H1 row c).natAbs<=2^b/\0<=H1 row c
def IG:decide (a.sign<0)=decide (a<0):=by
 rcases ej a 0 with h|h|h
 .rw[eI h];simp;omega
 .subst h;simp
 .rw[cX h];simp;omega
def zG:(a.sign != 0)=(a != 0):=by
 rcases ej a 0 with h|h|h
 .rw[eI h];simp;omega
 .subst h;simp
 .rw[cX h];simp;omega
def Aj(S0:St)(bp bh bu n m K b row c:Nat)(gh gu:Nat->Nat)(A0:az)(M:n<=8)(N:m<=9)(a:row<n)(f:c<m)(z:b+1<=536870912)(hK:K+(m-1-c)*(b+4)<=3000000000)(e:GaM S0 bp bh gh bu gu n m K b row c (c+1) A0) :
  cI 187 [ϰ bp 0,ι row,ι c] S0 (fun _ S'=>GaR S' bp bh gh bu gu n m (K+(m-1-c)*(b+4)) b row c A0):=by
 refine fC func187 rfl 74 ntmps187 kr sm ?_
 rw[jY,results187];simp only[go_sem,aF (om:c<1000000)]
 refine aC (fun O S=>∃j:Nat,(c<j/\j<=m)/\GaM S bp bh gh bu gu n m (K+(j-1-c)*(b+4)) b row c j A0/\O 0=ϰ bp 0/\O 1=ι row/\O 2=ι c/\O 6=ι j) (fun O S=>m-bO (O 6)) ?_ ?_
 .simp only[go_sem];exact⟨c+1,om,om,by rw[(om:c+1-1-c=0),nJ];exact e,rfl⟩
 .clear e;rintro O S ⟨j,⟨P,hj2⟩,hG,u,v,D,A⟩;obtain⟨H1,U1,e,E,p,F⟩:=id hG;obtain⟨g,H,I,p3⟩:=e.pair;have hk1:=aq (b+4) (om:j-1-c<=m-1-c)
  by_cases d:j<m
  .have Q:=aq (b+4) (om:j-1-c+1<=m-1-c)
   rw[cj]at Q;simp only[*,go_sem,aa];generalize T:(j-1-c)*(b+4)=Kj at *;refine MZ (G:=az×az) (fun x O S'=>jy S' bp bh gh bu gu n m x.1 x.2/\PV n m (n+m) (K+Kj) b row c j A0 (qO n x.1 x.2)/\O 0=ϰ bp 0/\O 1=ι row/\O 2=ι c/\O 6=ι j) (fun x=>(x.1 row j).natAbs) ?_ ?_
   .refine⟨(H1,U1),e,E.eu p F f om d,?_⟩;simp only[*,go_sem]
   .clear e E p F hG H I p3 u v D A;rintro Q' U ⟨H2,U2⟩ O S' ⟨e,w,u,v,D,A⟩ R hR;dsimp only at e w hR;obtain⟨g,H,I,p3⟩:=e.pair;obtain⟨V,W,X⟩:=e.h.outer;obtain⟨J,Y,L⟩:=e.h.row row a;have Z:V row=ϕ (gh row) 0 m:=X row a;have x2:J c=ϱ (H2 row c):=L c f;have x3:J j=ϱ (H2 row j):=L j d;have l:=w.bd;simp -dsimp only[go_sem,aa,u,v,A,H,I,W,Z,Y,x3,d,a];refine(jQ (l.hn a d) om).call ?_;by_cases q:H2 row j=0
    .have hs:(H2 row j != 0)=false:=by simpa using q
     obtain⟨f1,f2⟩:=w.fin (by rw[gV a];exact q)
     simp only[go_sem,zG,hs];rw[U];simp only[*,go_sem,aF (om:j<1000000),bO]
     refine⟨⟨j+1,om,om,⟨H2,U2,e,f1,?_,w.rw⟩,rfl⟩,om⟩
     rw[(om:j+1-1-c=j-1-c+1),cj,T,(om:K+(Kj+(b+4))=K+Kj+b+4)];exact f2
    .have hs:(H2 row j != 0)=true:=by simpa using q
     simp -dsimp only[go_sem,zG,hs,u,v,A];refine aN 24 kr ?_
     simp -dsimp only[go_sem,aa,u,v,D,A,H,I,W,Z,Y,x2,x3,d,a,f];have B:∀k,c<=k->k<m->nb (H2 row k) (b+1):=fun k h1 h2=>by
      have:=w.rw k h1 h2;rw[gV a]at this;exact dG this (jL om om)
     refine⟨_,(mZ (B c (ag _) f) (B j om d) z q).pure',?_⟩
     try simp -dsimp only[go_sem]
     have hq:nb (H2 row c/H2 row j) (K+Kj+b+4+1):=nb.of_le (jD ..) (l.hn a f);refine(pw S' bp bh bu n m c j gh gu H2 U2 _ (K+Kj+b+4+1) M N f d om hq (fun i k r s=>l.hn r s) (fun i k r s=>l.un r s) e).mono ?_;intro _ S2 t;simp -dsimp only[*,go_sem,aa];refine(C0 S2 bp bh bu n m c j gh gu _ _ M N f d om t).mono ?_;intro _ S3 hP3;simp only[go_sem];obtain⟨C,y⟩:=w.step P d (by rw[gV a];exact q)
     rw[<-Rv a]at C y;rw[gV a,gV a]at y;refine hR (_,_) _ _ ⟨hP3,C,?_⟩ y;simp only[*,go_sem]
  .obtain rfl:j=m:=om
   obtain⟨V,W,X⟩:=e.h.outer;obtain⟨J,Y,L⟩:=e.h.row row a;have Z:V row=ϕ (gh row) 0 j:=X row a;have x2:J c=ϱ (H1 row c):=L c f;simp -dsimp only[*,go_sem,aa];refine(jQ (p.hn a f) om).call ?_;by_cases q:H1 row c<0
   .simp -dsimp only[go_sem,aa,u,v,D,IG,q];refine(zZ S bp bh bu n j c gh gu H1 U1 (K+(j-1-c)*(b+4)+1) M N f om (fun i k r s=>p.hn r s) (fun i k r s=>p.un r s) e).mono ?_;intro _ S2 t;simp only[go_sem];obtain⟨C,y⟩:=E.neg p f;rw[<-Pf]at C y;have o:=F c (ag _) f;rw[gV a]at o;exact⟨_,_,t,C,y,by simp only[lY,aH];omega,by simp only[lY,aH];omega⟩
   .simp only[*,go_sem,aa,IG];have o:=F c (ag _) f;rw[gV a]at o;exact⟨H1,U1,e,E,p,o,om⟩

def FoM(S:St)(bp bh:Nat)(gh:Nat->Nat)(bu:Nat)(gu:Nat->Nat)(n m K i:Nat)(A0:az):Prop :=
 ∃H1 U1,jy S bp bh gh bu gu n m H1 U1/\JE n m (n+m) K i A0 (qO n H1 U1)
def ReM(S:St)(bp bh:Nat)(gh:Nat->Nat)(bu:Nat)(gu:Nat->Nat)(n m K b i s:Nat)(A0:az):Prop :=
 ∃H1 U1,jy S bp bh gh bu gu n m H1 U1/\PJ n m (n+m) K b i s A0 (qO n H1 U1)
def FormQ(S:St)(n m K:Nat)(A0:az)(r:AV):Prop:=∃(bh:Nat) (gh:Nat->Nat) (bu:Nat) (H1 U1:az),r=.tup [ϑ bh 0 n,ϑ bu 0 m,.bool true]/\dr S bh gh n m H1/\JE n m (n+m) K n A0 (qO n H1 U1)
def PJ.bdd{K:Nat}{A0:az}(h:PJ n m N K b i s A0 A):Bd N m (2*K+4) A:=fun r k a c=>by
 have d:=h.bd r k a c;have e:=pC (om:K<=2*K+4)
 split at d<;>omega
def vM(n m K:Nat)(A:az)(U:1<=n)(hn:n<=8)(V:n<=m)(hm:m<=9)(hK:gg K m n<=3000000000)(v:∀i,i<n->gg K m i+1<=536870912)(hb:Bd (n+m) m K (qO n A jT))(hf:∀i,i<n->∃M,M≠0/\eU n m (qO n A jT) (gH M i)):cI 125 [aP n m A] St.none (fun r S'=>FormQ S' n m K (qO n A jT) r):=by
 refine jg func125 ntmps125 results125 ?_;have hK0:K<=3000000000:=bQ (Jg (K:=K) (m:=m) (om:0<=n)) hK
 simp -dsimp only[go_sem,aa];refine(nS n m A U om om om).call ?_;simp -dsimp only[go_sem,aa];refine(rR m om om _ _ (cD _ _)).mono ?_;rintro r S1 ⟨bu,gu,rfl,W⟩;simp -dsimp only[go_sem,aa];refine(En n m A (K+1) om om om (fun i j w X=>hb.hn w X) om _ _ (cD _ _)).mono ?_;rintro r S2 ⟨bh,gh,rfl,E⟩;simp only[go_sem,aU,bF,ca,cA];refine ax.intro fun c f=>?_;have F:FoM (S2.upd c ⟨183,1,2,fun j=>[ϑ bh 0 n,ϑ bu 0 m].getD j .any⟩) c bh gh bu gu n m K 0 (qO n A jT):=by
  have x:dr S2 bu gu m m jT:=W.1.ext E.2.1;refine⟨A,jT,⟨⟨_,bW,rfl,rfl⟩,E.1.stp (aE (aY.fresh E.1.outer f)) fun i w=>aE (aY.fresh (E.1.row i w) f),x.stp (aE (aY.fresh x.outer f)) fun i w=>aE (aY.fresh (x.row i w) f),fun i j w X e=>?_⟩,JE.init hb⟩;have e1:=E.2.2.2 i w;obtain⟨_,e2,_⟩:=W.1.row j X;rw[e,e2]at e1;cases e1
 generalize S2.upd c ⟨183,1,2,fun j=>[ϑ bh 0 n,ϑ bu 0 m].getD j .any⟩=S3 at F ⊢;clear W E f;refine aC (fun O S=>∃i:Nat,i<=n/\FoM S c bh gh bu gu n m K i (qO n A jT)/\O 0=aP n m A/\O 6=ι m/\O 10=ϰ c 0/\O 11=ι i/\O 12=ι i) (fun O S=>n-bO (O 11)) ?_ ?_
 .simp only[go_sem];exact⟨0,om,F,rfl,rfl⟩
 .clear F;rintro O S ⟨i,w,F,e0,e6,G,H,I⟩;by_cases b:i<n
  .have d:i<m:=om
   obtain⟨H1,U1,l,y⟩:=F;have hK3:gg K m (i+1)<=3000000000:=bQ (Jg b) hK;have z:(if i=0 then 1 else 2)*(gg K m i+(m-1-i)*(gg K m i+4))+4<=gg K m (i+1):=ag _
   have Y:gg K m i+(m-1-i)*(gg K m i+4)<=3000000000:=by
    have:=z;split at this<;>omega
   simp -dsimp only[*,go_sem,aa,aP];refine(Aj S c bh bu n m (gg K m i) (gg K m i) i i gh gu (qO n H1 U1) hn hm b d (v i b) Y ⟨H1,U1,l,y.ga,y.bd,fun k _ J=>y.bd i k om J⟩).mono ?_;rintro r S' ⟨H2,U2,o,hg,B,L,h0⟩;have Z:=y.re om hg B (by rw[gV b];exact L) b V (hf i b) (by rw[gV b];exact h0)
   have p:0<H2 i i:=by have:=(Z.tri i om).2;rwa [gV b]at this
   generalize hKd:gg K m i+(m-1-i)*(gg K m i+4)=Kd at *;obtain⟨g,p1,p2,p3⟩:=o.pair;obtain⟨g1,u1,R⟩:=o.h.outer;obtain⟨T,u2,N⟩:=o.h.row i b;have x1:g1 i=ϕ (gh i) 0 m:=R i b;have x2:T i=ϱ (H2 i i):=N i d;simp -dsimp only[*,go_sem,aa];refine(jQ (B.hn b d) om).call ?_;simp only[*,go_sem,aP,cX p,show((1:Int)==0)=false from rfl];have u:ReM S' c bh gh bu gu n m Kd (gg K m i) i 0 (qO n A jT):=⟨H2,U2,o,Z⟩;clear u1 R u2 N x1 x2 p1 p2 p3 o Z p B hg h0 L l y;refine aC (fun O S=>∃s:Nat,s<=i/\ReM S c bh gh bu gu n m Kd (gg K m i) i s (qO n A jT)/\O 0=aP n m A/\O 6=ι m/\O 10=ϰ c 0/\O 11=ι i/\O 12=ι i/\O 13=ι s) (fun O S=>i-bO (O 13)) ?_ ?_
   .simp only[*,go_sem,aP];exact⟨0,om,u,rfl⟩
   .clear u e0 e6 G H I;rintro O S ⟨s,hs,u,e0,e6,G,H,I,e13⟩;obtain⟨H3,U3,q,t⟩:=id u;have C:=t.bdd;by_cases hsi:s<i
    .obtain⟨g,p1,p2,p3⟩:=q.pair;obtain⟨g1,u1,R⟩:=q.h.outer;obtain⟨T,u2,N⟩:=q.h.row i b;have D:s<m:=om
     have x1:g1 i=ϕ (gh i) 0 m:=R i b;have x2:T i=ϱ (H3 i i):=N i d;have x3:T s=ϱ (H3 i s):=N s D;have p:0<H3 i i:=by have:=(t.tri i om).2;rwa [gV b]at this
     have hq:nb (H3 i s/H3 i i) (2*Kd+4+1):=nb.of_le (jD ..) (C.hn b D);simp -dsimp only[*,go_sem,aP];refine aN 24 kr ?_
     simp -dsimp only[*,go_sem,aa];have P:∀k,s<=k->k<=i->nb (H3 i k) (gg K m i+1):=fun k U h2=>by
      have:=t.rw k U h2;rw[gV b]at this;exact dG this (jL om om)
     refine⟨_,(mZ (P s (ag _) om) (P i om (ag _)) (v i b) om).pure',?_⟩
     try simp -dsimp only[go_sem]
     have hKd2:2*Kd+4<=3000000000:=by
      have:=z;rw[ah om]at this;omega
     refine(pw S c bh bu n m s i gh gu H3 U3 _ (2*Kd+4+1) hn hm D d om hq (fun a k ha J=>C.hn ha J) (fun a k ha J=>C.un ha J) q).mono ?_;intro r S4 hP4;have Q:=t.step hsi d om;rw[gV b,gV b,<-Pe]at Q;simp only[*,go_sem,aP,aF (om:s<1000000),bO]
     exact⟨⟨s+1,om,⟨_,_,hP4,Q⟩,rfl⟩,om⟩
    .obtain rfl:s=i:=om
     simp only[*,go_sem,aP,aF (om:s<1000000),bO]
     exact⟨⟨s+1,om,⟨H3,U3,q,t.fin z⟩,rfl,rfl⟩,om⟩
  .obtain rfl:i=n:=om
   obtain⟨H1,U1,l,y⟩:=F;obtain⟨g,p1,p2,p3⟩:=l.pair;simp -dsimp only[*,go_sem,aa,aP];refine aN 11 kr ?_
   simp only[*,go_sem,aa];exact⟨bh,gh,bu,H1,U1,rfl,l.h,y⟩
def JG(n m c k:Nat)(H:az)(h:n<=8)(l:k<=8000000000)(b:c<m)(d:∀i j,i<n->j<m->nb (H i j) k)(f:∀i,i<n->i<c->H i c=0)(g:c<n->H c c≠0):PF 73 [aP n m H,ι c] (ι ((min c n:Nat):Int)):=by
 refine iy func73 ntmps73 results73 ?_;simp only[go_sem,aP];refine aC (fun O S=>∃i:Nat,i<=min c n/\O 0=aP n m H/\O 1=ι c/\O 7=ι n/\O 8=ι i) (fun O S=>n-bO (O 8)) ?_ ?_
 .simp only[go_sem,aP];exact⟨0,om,rfl⟩
 .rintro O S ⟨i,o,p,q,r,s⟩;by_cases a:i<n
  .simp -dsimp only[*,go_sem,aa,aP,bn];refine(jQ (d i c a b) om).call ?_;by_cases e:i=c
   .subst e;have t:(H i i != 0)=true:=by simpa using g a
    simp only[*,go_sem,aP,bn,zG];rw[(om:min i n=i)]
    exact VR.mf rfl
   .simp only[*,go_sem,aP,bn,f i a om,ph,show((0:Int) != 0)=false from rfl,aF (om:i<1000000),bO]
    exact⟨⟨i+1,om,rfl⟩,om⟩
  .simp only[*,go_sem,aa,aP];rw[(om:min c n=n)]
   exact VR.mf rfl
def JK{K:AV->Prop}(a:n<=m)(h:K (ϕ b 0 n)):lh 59 (ϕ b 0 m) ae (some (ι n)) ae K:=by
 refine⟨rfl,0,n,?_⟩;simp;exact⟨a,h⟩
structure CutM(S:St)(b:Nat)(g:Nat->Nat)(n m i:Nat)(A:az):Prop where
 outer:aY S b 59 1 n (fun r=>ϕ (g r) 0 (if r<i then n else m))
 row:∀r,r<n->aY S (g r) 50 2 m (fun k=>ϱ (A r k))
def yQ(x:gP):eU n m (qO n A U) x↔eU n m A x:=by
 have e:∀i,i<n->∀c:gP,ap m (fun j=>qO n A U i j*c j)=ap m (fun j=>A i j*c j):=fun i a c=>ay fun j _=>by rw[gV a]
 exact⟨fun⟨c,b⟩=>⟨c,fun i a=>by rw[b i a,e i a]⟩,fun⟨c,b⟩=>⟨c,fun i a=>by rw[b i a,e i a]⟩⟩
def Iq(n K:Nat)(A B:az)(h1:1<=n)(T:n<=8)(V:gg K (n+1) n<=3000000000)(l:∀i,i<n->gg K (n+1) i+1<=536870912)(W:Bd (n+(n+1)) (n+1) K (qO n A jT))(X:∀i,i<n->∃M,M≠0/\eU n (n+1) A (gH M i))
  (hT:wW n n B) (b:∀c j,c<n->j<c->0<=B c j/\B c j<B c c) (Y:∀y,eU n n B y↔eU n (n+1) A y):PF 62 [aP n (n+1) A] (.tup [aP n n B,.bool true]):=by
 refine iy func62 ntmps62 results62 ?_;have D:gg K (n+1) n+1<=8000000000:=om
 simp -dsimp only[go_sem,aa];refine(vM n (n+1) K A h1 T om om V l W fun i d=>by
  obtain⟨M,h,h'⟩:=X i d;exact⟨M,h,(yQ _).2 h'⟩).mono ?_
 rintro r S1 ⟨bh,gh,bu,H,U,rfl,f,q⟩;simp only[go_sem];have t:wW n n H:=fun r b=>⟨fun j E Z=>by have:=(q.tri r b).1 j E om;rwa [gV b]at this,by have:=(q.tri r b).2;rwa [gV b]at this⟩
 have hz:∀r c,r<n->r<c->c<n+1->H r c=0:=fun r c b E Z=>by have:=(q.tri r b).1 c E Z;rwa [gV b]at this
 have F:∀i j,i<n->j<n->H i j=B i j:=by
  refine Ci t hT (fun c j m G=>by have:=q.red c j m G;rwa [gV m,gV m]at this) b fun y=>?_
  rw[Y y,<-yQ (A:=A) (U:=jT) y,<-q.cut y];have e:∀i,i<n->∀c:gP,ap n (fun j=>qO n H U i j*c j)=ap n (fun j=>H i j*c j):=fun i d c=>ay fun j _=>by rw[gV d]
  exact⟨fun⟨c,m⟩=>⟨c,fun i d=>by rw[m i d,e i d]⟩,fun⟨c,m⟩=>⟨c,fun i d=>by rw[m i d,e i d]⟩⟩
 have I:∀i j,i<n->j<n+1->nb (H i j) (gg K (n+1) n+1):=fun i j d G=>q.bd.hn d G;generalize gg K (n+1) n+1=Kn at *;clear q W X Y b V l;have u:0<n:=om
 refine aC (fun O S=>∃c:Nat,c<=n/\dr S bh gh n (n+1) H/\O 4=ϑ bh 0 n/\O 7=ι c) (fun O S=>n-bO (O 7)) ?_ ?_
 .simp only[go_sem];exact⟨0,om,f,rfl⟩
 .clear f;rintro O S ⟨c,m,f,w,x⟩;obtain⟨J,L,v⟩:=id f.outer;obtain⟨g2,u2,v2⟩:=id (f.row 0 u);have z:J 0=ϕ (gh 0) 0 (n+1):=v 0 u;have s:c<n+1:=om
  have o:=JG n (n+1) c Kn H T D s I (fun i d N=>hz i c d N s) (fun h=>by have:=(t c h).2;omega)
  by_cases g:c<n
  .simp -dsimp only[*,go_sem,aa,show((0:Int)<(n:Int)) by omega,jr]
   refine o.spec (eM.mat f (eM.same eM.nil)) ?_;rw[(om:min c n=c)]
   simp only[go_sem,w,x,z,g,s,aF (om:c<1000000),bO]
   exact⟨⟨c+1,om,f,rfl⟩,om⟩
  .obtain rfl:c=n:=om
   simp -dsimp only[*,go_sem,aa,show((0:Int)<(c:Int)) by omega,jr]
   refine o.spec (eM.mat f (eM.same eM.nil)) ?_;rw[(om:min c c=c)]
   simp only[*,go_sem,jr,NJ,show(((c:Nat):Int)==0)=false by simp;omega]
   have p:CutM S bh gh c (c+1) 0 H:=⟨f.outer.congr fun r _=>by simp,f.row⟩
   have P:∀r,r<c->bh≠gh r:=fun r b=>f.outer_ne b;clear f L v u2 v2 z;refine aC (fun O S=>∃i:Nat,i<=c/\CutM S bh gh c (c+1) i H/\O 4=ϑ bh 0 c/\O 7=ι c/\O 36=ι c/\O 37=ι i) (fun O S=>c-bO (O 37)) ?_ ?_
   .simp only[*,go_sem];exact⟨0,om,p,rfl⟩
   .clear p w x;rintro O S ⟨i,d,p,w,x,Q,R⟩;obtain⟨J,L,v⟩:=id p.outer;by_cases g:i<c
    .have z:J i=ϕ (gh i) 0 (c+1):=(v i g).trans sm
     obtain⟨g2,u2,v2⟩:=id (p.row i g);simp only[go_sem,aa,w,x,Q,R,g,L,z,aF (om:i<1000000),bO,gF,dw]
     refine JK om ?_;simp only[go_sem];refine⟨⟨i+1,om,⟨aY.here fun a C=>?_,fun a C=>aY.upd (p.row a C) (ai (P a C)) _⟩,rfl⟩,om⟩
     simp only[aL];by_cases e:a=i
     .rw[aj e,e,aj om]
     .rw[ah e,v a C];dsimp only;by_cases e2:a<i
      .rw[aj e2,aj om]
      .rw[ah e2,ah om]
    .obtain rfl:i=c:=om
     simp only[*,go_sem,aa];refine VR.tup2 (VR.sl (p.outer.congr (g':=fun r=>ϕ (gh r) 0 i) fun r b=>by simp[b]) om fun r b=>?_) (VR.mf rfl)
     rw[aM];refine VR.sl ((p.row r b).congr (g':=fun k=>ϱ (if k<i then B r k else H r k)) fun k _=>by
      by_cases e:k<i
      .simp only[e,aH];rw[F r k b e]
      .simp only[e,aI]) om fun k hk=>?_
     rw[aM,aj hk];exact VR.mf rfl

def Ir(n K:Nat)(A:az)(l:1<=n)(m:n<=8)(o:gg K (n+1) n<=3000000000)(d:∀i,i<n->gg K (n+1) i+1<=536870912)(p:Bd (n+(n+1)) (n+1) K (qO n A jT))(q:∀i,i<n->∃M,M≠0/\eU n (n+1) A (gH M i)) :
  (∃B,wW n n B/\(∀c j,c<n->j<c->0<=B c j/\B c j<B c c)/\∀y,eU n n B y↔eU n (n+1) A y)∨cI 62 [aP n (n+1) A] St.none (fun _ _=>False):=by
 by_cases k:∃B,wW n n B/\(∀c j,c<n->j<c->0<=B c j/\B c j<B c c)/\∀y,eU n n B y↔eU n (n+1) A y
 .exact a6 k
 refine aQ (jg func62 ntmps62 results62 ?_);simp -dsimp only[go_sem,aa];refine(vM n (n+1) K A l m om om o d p fun i a=>by
  obtain⟨M,h,h'⟩:=q i a;exact⟨M,h,(yQ _).2 h'⟩).mono ?_
 rintro r S1 ⟨bh,gh,bu,H,U,rfl,u,f⟩;refine absurd ⟨H,fun r g=>⟨fun j s v=>?_,?_⟩,fun c j b t=>?_,fun y=>?_⟩ k
 .have:=(f.tri r g).1 j s om;rwa [gV g]at this
 .have:=(f.tri r g).2;rwa [gV g]at this
 .have:=f.red c j b t;rwa [gV b,gV b]at this
 .rw[<-yQ (A:=A) (U:=jT) y,<-f.cut y];have e:∀i,i<n->∀c:gP,ap n (fun j=>qO n H U i j*c j)=ap n (fun j=>H i j*c j):=fun i a c=>ay fun j _=>by rw[gV a]
  exact⟨fun⟨c,b⟩=>⟨c,fun i a=>by rw[b i a,e i a]⟩,fun⟨c,b⟩=>⟨c,fun i a=>by rw[b i a,e i a]⟩⟩
def Jq{a:Nat}(f:nI p)(c:0<a)(j:a<p):(bz a p).1=1:=by
 obtain⟨g,i⟩:=DT p a p (ag p);have d:=(AC p a p (ag p) (a6 c)).1;have b:=jA.2 g;have e:=jA.2 i;rw[fH]at b e;rcases f.1.div e with h|h
 .omega
 .rw[h]at b;have:=BG c b;omega
def qP(a p:Nat)(k:nI p)(l:0<a)(A:a<p):PF 61 [ι a,ι p] (.tup [ι ((bz a p).2.1%p),.bool true]):=by
 have n:=p6 k;refine iy func61 ntmps61 results61 ?_;simp -dsimp only[go_sem,aa];refine(Kc a p om om).call ?_;rw[Jq k l A];simp only[go_sem,show((1:Int) != 1)=false from rfl];refine aC (fun O S=>∃(x y:Nat) (u na b nb:Int),K8 a p x y u b na nb/\O 1=ι p/\O 6=ι x/\O 7=ι y/\O 8=ι u/\O 9=ι na) (fun O S=>bO (O 7)) ?_ ?_
 .simp only[go_sem];exact⟨a,p,1,0,0,1,K8.init (a6 l),rfl,rfl,rfl,rfl⟩
 .rintro O S ⟨x,y,u,na,b,nb,c,o,r,s,t,v⟩;have B:=c.lx;have C:=c.ly;have D:=c.la;have w:=c.lna;by_cases e:y=0
  .subst e;have E:=c.fin;simp -dsimp only[go_sem,aa,o,r,s,t,v,show(((0:Nat):Int) != 0)=false from rfl];refine(Ef (a:=u) (m:=(p:Int)) om om).call ?_;simp only[go_sem];rw[E];exact VR.tup2 (VR.mf rfl) (VR.mf rfl)
  .have z:=c.step e;have f:(((y:Nat):Int) != 0)=true:=by simp;omega
   have d:¬(((y:Nat):Int)=0):=om
   have F:Int.tdiv (x:Int) (y:Int)=((x/y:Nat):Int):=(TE x y).symm;have g:=di x (gI e);have G:=gG x y;have h:=cW x y;have H:=z.lna;have i:=(qx (q:=((x/y:Nat):Int)) (cO _) c.ga).1;rw[fH]at i;have I:(((x/y:Nat):Int)*na).natAbs=x/y*na.natAbs:=by rw[cP,fH]
   have J:ω ((x/y:Nat):Int)=((x/y:Nat):Int):=by
    have K:(0:Int)<=((x/y:Nat):Int):=cO _;have L:((x/y:Nat):Int)<=x:=kG.2 G;generalize ((x/y:Nat):Int)=zz at *;exact i64_in om om
   have j:((x/y:Nat):Int)*(y:Int)=((x:Nat):Int)-((x%y:Nat):Int):=by
    have M:((y*(x/y)+x%y:Nat):Int)=(x:Int):=by rw[h]
    rw[ef,aV,bU]at M;omega
   have N:ω (((x/y:Nat):Int)*(y:Int))=((x:Nat):Int)-((x%y:Nat):Int):=by rw[j];exact i64_in om om
   have P:ω (((x:Nat):Int)-(((x:Nat):Int)-((x%y:Nat):Int)))=((x%y:Nat):Int):=by
    rw[show((x:Nat):Int)-(((x:Nat):Int)-((x%y:Nat):Int))=((x%y:Nat):Int) by omega];exact i64_in om om
   have Q:ω (((x/y:Nat):Int)*na)=((x/y:Nat):Int)*na:=i64_in om om;have R:ω (u-((x/y:Nat):Int)*na)=u-((x/y:Nat):Int)*na:=i64_in om om;simp only[go_sem,aa,o,r,s,t,v,f,d,F,J,N,P,Q,R,bO];exact⟨⟨y,x%y,na,u-((x/y:Nat):Int)*na,nb,_,z,rfl,rfl,rfl,rfl⟩,g⟩
def MP{a:Nat}(b:nI p)(c:0<a)(d:a<p):(p:Int)∣(bz a p).2.1%p*a-1:=by
 have e:=DS p a p (ag p);rw[Jq b c d]at e;have f:=dz (bz a p).2.1 p;generalize (bz a p).2.1=u at *;generalize (bz a p).2.2=w at *;refine⟨-(u/p)*a-w,?_⟩;generalize u/(p:Int)=q at *;generalize u%(p:Int)=r at *;subst f
 grind

def De(n:Nat)(A:az)(h:Nat)(r:1<=n)(u:n<=8)(o:∀i j,i<n->j<n->nb (A i j) h)(v:h<=500000)(p:kh A n):PF 58 [aP n n A] (.bool true):=by
 refine iy func58 ntmps58 results58 ?_;simp -dsimp only[go_sem,aa];refine(tf n A h r om o om).call ?_;simp -dsimp only[go_sem,aP];refine aC (fun O S=>∃i:Nat,i<=n/\O 0=aP n n A/\O 3=bn n (fun k=>det (k+1) A)/\O 13=ι n/\O 14=ι i) (fun O S=>n-bO (O 14)) ?_ ?_
 .simp -dsimp only[go_sem,aP,bn];exact⟨0,om,rfl⟩
 .rintro O S ⟨i,w,e,f,a,b⟩;by_cases c:i<n
  .simp -dsimp only[go_sem,a,b,c];refine aC (fun O S=>∃j:Nat,j<=i/\O 0=aP n n A/\O 3=bn n (fun k=>det (k+1) A)/\O 5=ι i/\O 6=ι j/\O 13=ι n/\O 14=ι i) (fun O S=>n-bO (O 6)) ?_ ?_
   .simp -dsimp only[go_sem,e,f,a,b];exact⟨0,om,rfl⟩
   .clear e f a b;rintro O S ⟨j,x,e,f,l,m,a,b⟩;by_cases d:j<i
    .simp -dsimp only[go_sem,aa,e,f,l,m,a,b,d];refine(FU n i j A h d c om o om).call ?_;have s:ig A i j:=p.1 i c j d;rw[show decide (2*((fq A i j).natAbs:Int)<=det (j+1) A)=true by simpa [ig]using s]
     simp -dsimp only[go_sem,e,f,l,m,a,b,aF (om:j<1000000),bO]
     exact⟨⟨j+1,om,rfl⟩,om⟩
    .by_cases q:0<i
     .have g:(0:Int)<(i:Int):=om
      simp -dsimp only[go_sem,aa,e,f,l,m,d,g];refine(CG n i A h q c om o om).call ?_;have t:gS A i:=p.2 i q c;rw[show decide (3*(det i A*det i A)<=4*(det (i-1) A*det (i+1) A+fq A i (i-1)*fq A i (i-1)))=true by simpa [gS]using t]
      simp -dsimp only[go_sem,e,f,l,a,b,g,aF (om:i<1000000),bO]
      exact⟨⟨i+1,om,rfl⟩,om⟩
     .obtain rfl:i=0:=om
      simp -dsimp only[go_sem,aa,e,f,l,m,a,b,show((0:Nat):Int)=0 from rfl,NJ,show ω ((0:Int)+1)=1 from rfl,bO];exact⟨⟨1,om,rfl⟩,by simp;omega⟩
  .obtain rfl:i=n:=om
   simp -dsimp only[go_sem,a,b,c];exact VR.mf rfl
def AY(n:Nat)(H:az)(a:1<=n)(m:n<=8)(k:∀i j,i<n->j<n->-9223372036854775808<=H i j/\H i j<=9223372036854775807)(l:∀i j,i<n->j<n->H i j=H j i)(c:vu H n):PF 21 [av n n H] (.bool true):=by
 have d:∀i j,i<n->j<n->nb (H i j) 64:=fun i j e f=>by have:=k i j e f;unfold nb;omega
 refine iy func21 ntmps21 results21 ?_;simp -dsimp only[go_sem,aa];refine(vL _ n n H a om a om (fun i j e f=>by have:=k i j e f;unfold xa;omega)).mono ?_
 rintro _ S1 ⟨b,g,rfl,h⟩;simp -dsimp only[go_sem,aa];refine(oQ n H 64 a om d om l true ⟨fun _=>c.pos,fun _=>rfl⟩).spec (eM.cons h.vr.va eM.nil) ?_;simp -dsimp only[go_sem,aa];refine(B5 n H 64 a om d om).spec (eM.cons h.vr.va eM.nil) ?_;rw[show decide (det n H<=10000)=true by simpa using c.dt]
 simp -dsimp only[go_sem,aa];refine(De n H 64 a om d om c.rows).spec (eM.cons h.vr.va eM.nil) ?_;simp -dsimp only[go_sem];exact VR.mf rfl

def Ky(n p:Nat)(H:az)(a:eQ n H)(b:jw (det n H) p)(c:nI p):PF 74 [av n n H,ι p,.bool false] (ι 0):=by
 refine iy func74 ntmps74 results74 ?_;simp -dsimp only[go_sem,aa];refine(AY n H a.one a.eight (fun i j d e=>by have:=a.ent i j d e;omega) a.redB.1 a.redB.2).call ?_
 simp -dsimp only[go_sem,aa];refine(Ej n p H a.one a.eight a.ent a.det true ⟨fun _=>⟨rQ.of c,b.2.2.2⟩,fun _=>rfl⟩).call ?_;simp -dsimp only[go_sem];exact VR.mf rfl
def KE(a:0<n)(d:n<=1000)
  (c:∀b,S b=ae->K (ϑ b 0 n) (S.upd b ⟨2,1,n,fun i=>ι (v i)⟩)):gE 29 29 .nil (.lst 1 n (fun i=>ι (v i))) S K:=by
 unfold gE;rw[show dQ 29=some 2 from rfl];exact⟨rfl,rfl,rfl,a,fun j e=>by simp[dY],om,c⟩
def Rd(S:St)(c i:Nat)(B:Int):Nat:=match S c with
 | some X=>match X.g i with
  | .int _ z=>(B-z).toNat
  | _=>0
 | ae=>0
def I8{B:Int}(h:aY S c 2 1 n (fun k=>ι (w k)))(a:i<n):Rd S c i B=(B-w i).toNat:=by
 obtain⟨g,b,d⟩:=h;unfold Rd;rw[b];show(match g i with|.int _ z=>(B-z).toNat|_=>0)=_
 rw[d i a]
def FX(S:St)(n p:Nat)(H:az)(v:Nat->Nat)(E:eQ n H)(X:jw (det n H) p)(L:nI p)(B:jn n p H v) :
  cI 33 [av n n H,ι p,aK n (fun k=>v k)] S (fun r S'=>∃(c:Nat) (l:gP),r=.tup [ϑ c 0 n,ι 0]/\aY S' c 2 1 n (fun k=>ι (l k))/\(∀i,i<n->(p:Int)∣l i-(v i:Nat))/\(∀i,i<n->0<=l i/\l i<=100000000)/\(p:Int)*p∣jm n H l l/\dh S S'):=by
 have h1:=E.one;have hn:=E.eight;have f:=L.2;have hpp:(p:Int)*p<=99460729/\9<=(p:Int)*p:=by
  rw[<-aV];have a:=aX f.2 f.2;have b:=aX f.1 f.1;omega
 have wpp:ω ((p:Int)*p)=((p*p:Nat):Int):=by rw[aV];exact i64_in om om
 obtain⟨piv,F,G,P⟩:=GL E X L B;obtain⟨t,Q,ht1,R⟩:=Oo E L B F G;have T:∀i,i<n->(0:Int)<=(v i:Nat)/\((v i:Nat):Int)<=9972:=fun i M=>by have:=B.lt i M;omega
 refine jg func33 ntmps33 results33 ?_;simp -dsimp only[go_sem,aa];refine(Ky n p H E X L).call ?_;simp -dsimp only[go_sem,aa];refine(sM n p H (fun k=>v k) om om om (fun i M=>by have:=B.lt i M;omega)).call ?_
 have hb:(il (fun k=>(v k:Int)) n==1&&eE n H (fun k=>(v k:Int)) n%(p:Int)==0)=true:=by simp only[B.lead,B.norm];rfl
 simp -dsimp only[go_sem,hb];refine cf (fun O S'=>∃i:Nat,i<=piv/\S=S'/\O 0=av n n H/\O 1=ι p/\O 2=aK n (fun k=>v k)/\O 9=ι i) (fun O S=>n-bO (O 9)) ?_ ?_
 .simp -dsimp only[go_sem];exact⟨0,om,rfl⟩
 rintro Q' I O _ ⟨i,M,rfl,m,o,C,s⟩;have d:i<n:=om
 simp -dsimp only[go_sem,aa,m,o,C,s];refine(Ag n p H (fun k=>v k) om om om).call ?_;by_cases U:i<piv
 .have x:=P i U;unfold qR at x;simp -dsimp only[go_sem,m,o,C,s,aK,d,x,cb,aF (om:i<1000000),bO]
  exact⟨⟨i+1,om,rfl⟩,om⟩
 obtain rfl:i=piv:=om
 have V:((ap n fun j=>H i j*((v j:Nat):Int))%(p:Int)==0)=false:=by
  have:=G;unfold qR at this;simpa using this
 simp -dsimp only[go_sem,m,o,C,s,aK,d,V];rw[I];simp -dsimp only[go_sem,C];refine KE om om ?_;intro c Y;simp -dsimp only[go_sem,C];have hlv:∀(j:Int) k,k<n->iI v p i j k=if k=i then((v k:Nat):Int)+p*j else v k:=fun j k _=>rfl
 have y:∀j:Int,0<=j->j<=t->∀k,k<n->0<=iI v p i j k/\iI v p i j k<=99470701:=fun j Z h1 k D=>by
  have a:0<=(p:Int)*j/\(p:Int)*j<=99460729:=by
   have:=ck (show(p:Int)<=9973 by omega) (om:j<=9973) Z om
   exact⟨cC om Z,om⟩
  have:=T k D;unfold iI;split<;>omega
 refine cf (fun O S'=>∃j:Int,0<=j/\j<=t/\O 0=av n n H/\O 1=ι p/\O 9=ι i/\O 10=ϑ c 0 n/\aY S' c 2 1 n (fun k=>ι (iI v p i j k))/\dh S S') (fun _ S'=>Rd S' c i (v i+p*t)) ?_ ?_
 .simp -dsimp only[go_sem,m,o,s];exact⟨0,om,Q,aY.here fun k D=>by unfold iI;simp,(dh.refl S).upd Y _⟩
 clear m o C s I;rintro Q2 W O S' ⟨j,J,z,m,o,s,q,N,hE⟩;simp -dsimp only[go_sem,aa,m,o,q,wpp];refine(Ce n (p*p) H (iI v p i j) om om om).spec (eM.three (VA.refl _ _) (oq.vr (show oq S' c n (iI v p i j)from N)).va (VA.refl _ _)) ?_;by_cases x:eE n H (iI v p i j) n%((p*p:Nat):Int)=0
 .have A:(eE n H (iI v p i j) n%((p*p:Nat):Int) != 0)=false:=by simpa using x
  simp -dsimp only[go_sem,aa,m,o,s,q,A];rw[W];simp -dsimp only[go_sem,q];refine⟨c,rfl,iI v p i j,N,fun k _=>wF k,fun k D=>by have:=y j J z k D;omega,?_,hE⟩
  have:=dF x
  rwa [aV]at this
 .have A:(eE n H (iI v p i j) n%((p*p:Nat):Int) != 0)=true:=by simpa using x
  have hjt:j<t:=by
   rcases Ta z with h|h
   .exact h
   .subst h;rw[aV]at x;exact absurd (cM R) x
  obtain⟨g,u,w⟩:=id N;have x1:g i=ι (iI v p i j i):=w i d;have hb1:=y j J z i d;have wz:ω (iI v p i j i+p)=iI v p i j i+p:=i64_in om om;simp -dsimp only[go_sem,aa,m,o,s,q,A,u,x1,d,wz];have K:aY (S'.upd c ⟨2,1,n,aL g i (ι (iI v p i j i+p))⟩) c 2 1 n (fun k=>ι (iI v p i (j+1) k)):=aY.here fun k D=>by
   simp only[aL];by_cases e:k=i
   .subst e;rw[aj rfl];show AV.int IntKind.i64 (iI v p k j k+p)=AV.int IntKind.i64 (iI v p k (j+1) k);unfold iI;rw[aj rfl,aj rfl];congr 1;grind
   .rw[ah e,w k D];show AV.int IntKind.i64 (iI v p i j k)=AV.int IntKind.i64 (iI v p i (j+1) k);unfold iI;rw[ah e,ah e]
  refine⟨⟨j+1,om,om,K,hE.upd Y _⟩,?_⟩
  rw[I8 K d,I8 N d];unfold iI;rw[aj rfl,aj rfl];have:=aT (om:j+1<=t) (show(0:Int)<=p by omega)
  have e5:(p:Int)*(j+1)=p*j+p:=by grind
  omega

def LZ{piv:Nat}{w:gP}(c:0<p)(a:piv<n)(b:(p:Int)∣u*w piv-1)(y:gP):eU n (n+1) (yv n p piv (fun j=>w j*u%p) l) y↔BI n p w l y:=by
 refine Dp (p:=(p:Int)) om a b (fun j _ _=>?_) y;have e:=dz (w j*u) p;obtain⟨t,d⟩:=b;generalize w j*u%(p:Int)=r at *;generalize hk:w j*u/(p:Int)=k at *;refine⟨w j*t-k*w piv,?_⟩;have:r=w j*u-p*k:=om
 subst this
 grind
def LY{w:gP}(i:Nat):BI n p w l (gH ((p:Int)*p) i):=by
 refine⟨0,gH p i,fun k _=>?_,?_⟩
 .unfold gH;split<;>simp
 .refine jf fun k _=>co ?_;unfold gH;split
  .exact iL _
  .exact jp _
def G8(n p piv:Nat)(q l:gP)(j:Nat):az:=fun a c=>if c=n then l a else if c<j then jh p piv q a c else 0
def Mr{piv:Nat}{q:gP}{a:Nat}(b:c<n+1):G8 n p piv q l n a c=yv n p piv q l a c:=by
 unfold G8 yv;by_cases e:c=n
 .rw[aj e,ah om]
 .rw[ah e,aj om,aj om]
def Rm:∀j,j<9->gg 27 (j+1) j<=3000000000/\∀i,i<j->gg 27 (j+1) i+1<=536870912:=by decide +kernel
def vP(S:St)(n p:Nat)(H:az)(v:Nat->Nat)(hF:eQ n H)(hg:jw (det n H) p)(N:nI p)(hL:jn n p H v) :
  cI 24 [av n n H,ι p,aK n (fun k=>v k)] S (fun r S'=>∃b g B S1,r=.tup [ϑ b 0 n,ι 0]/\tC n p H v B/\dh S S1/\gZ S1 S' b g n n B):=by
 have h1:=hF.one;have hn8:=hF.eight;have hp17:=p6 N;have hpp:=p6z N;obtain⟨piv,J,hs0,hsz⟩:=GL hF hg N hL;refine jg func24 ntmps24 results24 ?_;simp -dsimp only[go_sem,aa];refine(FX S n p H v hF hg N hL).mono ?_;rintro _ S1 ⟨c,l,rfl,hC,hl,hlb,hln,hE1⟩;simp -dsimp only[go_sem,aa,aR];refine(Ag n p H (fun k=>v k) om om om).call ?_;have P:∀i,(ap n fun j=>H i j*((v j:Nat):Int))%(p:Int)=wL n H p v i:=fun i=>(yE n H p (fun k=>v k) i).symm;have s:wL n H p v piv≠0:=by rw[<-P];exact hs0
 have K:∀i,i<piv->wL n H p v i=0:=fun i hi=>by rw[<-P];exact hsz i hi
 have d:∀i,0<=wL n H p v i/\wL n H p v i<p:=fun i=>q8 (n:=n) (H:=H) (p:=(p:Int)) (v:=fun k=>((v k:Nat):Int)) om i;simp only[P];have Q:=LZ (n:=n) (p:=p) (piv:=piv) (w:=wL n H p v) (l:=l) (u:=(bz (wL n H p v piv).toNat p).2.1%p) om J (by
  have h2:=MP N (a:=(wL n H p v piv).toNat) (by have:=d piv;omega) (by have:=d piv;omega)
  rwa [c9 (d piv).1]at h2)
 have hNB:∀B,wW n n B->(∀c j,c<n->j<c->0<=B c j/\B c j<B c c)->(∀y,eU n n B y↔BI n p (wL n H p v) l y)->tC n p H v B:=fun B b1 b2 W=>⟨b1,b2,⟨piv,J,s⟩,l,hl,hln,W⟩;generalize wL n H p v=w at s K d Q hNB ⊢;have hrec:PF 61 [ι (w piv),ι p] (.tup [ι ((bz (w piv).toNat p).2.1%p),.bool true]):=by
  have h2:=qP (w piv).toNat p N (by have:=d piv;omega) (by have:=d piv;omega)
  rwa [c9 (d piv).1]at h2
 have hur:0<=(bz (w piv).toNat p).2.1%(p:Int)/\(bz (w piv).toNat p).2.1%(p:Int)<p:=⟨aW _ om,aS _ om⟩;generalize hu:(bz (w piv).toNat p).2.1%(p:Int)=u at *;have hqr:∀j,0<=w j*u%(p:Int)/\w j*u%(p:Int)<p:=fun j=>⟨aW _ om,aS _ om⟩;simp only[go_sem];refine aC (fun O S'=>∃i:Nat,i<=piv/\S1=S'/\O 1=ι p/\O 8=ϑ c 0 n/\O 10=ι n/\O 11=aK n w/\O 12=ι i) (fun O S=>n-bO (O 12)) ?_ ?_
 .simp only[go_sem,aK];exact⟨0,om,rfl⟩
 rintro O _ ⟨i,hi,rfl,e1,e8,t,x,z⟩;have m:i<n:=om
 by_cases hip:i<piv
 .simp only[*,go_sem,aa,aK,K i hip,cb,aF (om:i<1000000),bO]
  exact⟨⟨i+1,om,rfl⟩,om⟩
 obtain rfl:i=piv:=om
 simp -dsimp only[*,go_sem,aa,aK,show(w i==0)=false by simpa using s]
 refine hrec.call ?_;simp -dsimp only[*,go_sem,aK]
 repeat refine an ?_
 refine ax.intro fun bb fb=>?_;simp only[go_sem];refine aC (fun O S'=>∃a:Nat,a<=n/\O 1=ι p/\O 8=ϑ c 0 n/\O 10=ι n/\O 11=aK n w/\O 12=ι i/\O 13=ι u/\O 15=ϑ bb 0 n/\O 57=ι n/\O 58=ι a/\∃g',fv 29 2 1 S1 S' bb g' n (n+1) a (fun r k=>ι (G8 n p i (fun j=>w j*u%p) l 0 r k))) (fun O S=>n-bO (O 58)) ?_ ?_
 .simp only[*,go_sem,aK];exact⟨0,om,rfl,fun _=>0,fv.init fb (fun _ _=>rfl) _ _⟩
 clear e1 e8 t x z;rintro O S' ⟨a,ha,e1,e8,t,x,z,R,T,e57,e58,g',o⟩;by_cases E:a<n
 .obtain⟨g4,u4,v4⟩:=id o.outer;have wn:ω ((n:Int)+1)=((n+1:Nat):Int):=dN om om;simp -dsimp only[*,go_sem,aa]
  repeat refine an ?_
  refine ax.intro fun bd fd=>?_;have hdb:bb≠bd:=aY.fresh o.outer fd;simp -dsimp only[*,go_sem];have q:=o.push dc fd u4 (fun _=>ι 0)
  generalize hgg:(fun r=>if r=a then bd else g' r)=gg at q
  generalize (S'.upd bd ⟨2,1,n+1,fun _=>ι 0⟩).upd bb ⟨29,1,n,aL g4 a (ϑ bd 0 (n+1))⟩=S2 at q ⊢;clear o u4 v4 fd hdb hgg;obtain⟨X,u5,U⟩:=id q.outer;obtain⟨g6,V,v6⟩:=id (q.row a om);obtain⟨g7,u7,v7⟩:=id (q.ext.has hC);have x5:X a=ϑ (gg a) 0 (n+1):=(U a E).trans (aj om);have x7:g7 a=ι (l a):=v7 a E;refine aN 10 kr ?_
  simp only[go_sem,aa,e1,e8,t,x,z,R,T,e57,e58,E,u5,x5,V,u7,x7,aF (om:a<1000000),bO]
  repeat refine an ?_
  refine⟨⟨a+1,om,rfl,gg,(q.put dc (om:a<a+1) V n (ι (l a))).congr fun r k _ _=>?_⟩,om⟩
  unfold G8;by_cases e:r=a/\k=n
  .rw[aj e,aj e.2,e.1]
  .rw[ah e];by_cases f:r=a
   .rw[aj f,ah (fun h=>e ⟨f,h⟩),ah om]
   .rw[ah f]
 obtain rfl:a=n:=om
 have hwpp:ω ((p:Int)*p)=(p:Int)*p:=i64_in om om;have hwn:ω (0-(p:Int))=-(p:Int):=by rw[Ew];exact i64_in om om
 have hp0:¬((p:Int)=0):=om
 simp only[*,go_sem,aa];refine aC (fun O S'=>∃j:Nat,j<=a/\O 1=ι p/\O 10=ι a/\O 11=aK a w/\O 12=ι i/\O 13=ι u/\O 15=ϑ bb 0 a/\O 17=ι j/\∃g',fv 29 2 1 S1 S' bb g' a (a+1) a (fun r k=>ι (G8 a p i (fun j=>w j*u%p) l j r k))) (fun O S=>a-bO (O 17)) ?_ ?_
 .simp only[*,go_sem];exact⟨0,om,rfl,g',o⟩
 clear e1 e8 t x z R T e57 e58 o E;clear g' S' O;rintro O S' ⟨j,hj,e1,t,x,z,R,T,e17,g',o⟩;by_cases C:j<a
 .obtain⟨X,u5,U⟩:=id o.outer;obtain⟨g6,V,v6⟩:=id (o.row i m);have x5:X i=ϑ (g' i) 0 (a+1):=(U i m).trans (aj m);by_cases D:j=i
  .subst D;simp only[*,go_sem,aa,cb,(om:j<a+1),aF (om:j<1000000),bO]
   refine⟨⟨j+1,om,rfl,g',(o.put dc C V j (ι ((p:Int)*p))).congr fun r k _ _=>?_⟩,om⟩
   unfold G8 jh;by_cases e:r=j/\k=j
   .rw[aj e,ah (om:¬k=a),aj (om:k<j+1),aj e.2,aj e.1]
   .rw[ah e];by_cases f:k=a
    .rw[aj f,aj f]
    .rw[ah f,ah f];by_cases e3:k<j
     .rw[aj e3,aj (om:k<j+1)]
     .rw[ah e3];by_cases Y:k=j
      .rw[aj (om:k<j+1),aj Y,ah (fun h=>e ⟨h,Y⟩)]
      .rw[ah (om:¬k<j+1)]
  .obtain⟨g8,u8,v8⟩:=id (o.row j C);have x8:X j=ϑ (g' j) 0 (a+1):=(U j C).trans (aj C);simp -dsimp only[*,go_sem,aa,show(((j:Nat):Int)==((i:Nat):Int))=false by simp;omega,(om:j<a+1)]
   have F:=o.put dc C u8 j (ι (p:Int))
   generalize S'.upd (g' j) ⟨2,1,a+1,aL g8 j (ι (p:Int))⟩=S2 at F ⊢;clear u5 U V v6 x5 u8 v8 x8;obtain⟨X,u5,U⟩:=id F.outer;obtain⟨g6,V,v6⟩:=id (F.row i m);have x5:X i=ϑ (g' i) 0 (a+1):=(U i m).trans (aj m);have hwj:=d j;have hm1:=kW (a:=w j) (b:=u) (A:=9973) (B:=9973) om om;have hm0:0<=w j*u:=cC hwj.1 hur.1;have w1:ω (w j*u)=w j*u:=i64_in om om;have w2:et (w j*u) (p:Int)=w j*u%(p:Int):=aJ hm0;have hq:=hqr j;have w3:ω (w j*u%(p:Int))=w j*u%(p:Int):=i64_in om om;have hm2:=kW (a:=-(p:Int)) (b:=w j*u%(p:Int)) (A:=9973) (B:=9973) om om;have w4:ω (-(p:Int)*(w j*u%(p:Int)))=-(p:Int)*(w j*u%(p:Int)):=i64_in om om;refine aN 17 kr ?_
   simp only[*,go_sem,aa,aK,(om:j<a+1),aF (om:j<1000000),bO]
   refine⟨⟨j+1,om,rfl,g',(F.put dc m V j (ι (-(p:Int)*(w j*u%(p:Int))))).congr fun r k _ _=>?_⟩,om⟩
   unfold G8 jh;by_cases f:k=a
   .rw[ah (om:¬(r=i/\k=j)),ah (om:¬(r=j/\k=j)),aj f,aj f]
   .by_cases Y:k=j
    .subst Y;by_cases e5:r=i
     .have e7:¬i=k:=fun h=>D h.symm;simp[f,D,e5,e7,sF]
     .by_cases e6:r=k
      .simp[f,D,e6]
      .simp[f,D,e5,e6]
    .rw[ah (fun h=>Y h.2),ah (fun h=>Y h.2),ah f,ah f];by_cases e3:k<j
     .rw[aj e3,aj (om:k<j+1)]
     .rw[ah e3,ah (om:¬k<j+1)]
 .obtain rfl:j=a:=om
  have hN:=o.imat (A:=yv j p i (fun j=>w j*u%p) l) (fun r k _ I=>by rw[Mr I])
  have hsm:∀r k,r<j->k<j+1->(yv j p i (fun j=>w j*u%p) l r k).natAbs<=100000000:=fun r k Z I=>Dr om om (fun j _=>by have:=hqr j;omega) (fun a ha=>by have:=hlb a ha;omega) r k Z I
  generalize yv j p i (fun j=>w j*u%p) l=G at *;simp -dsimp only[*,go_sem,aa];refine(Of_mf j (j+1) G h1 om om om (fun r k Z I=>by have:=hsm r k Z I;unfold xa;omega)).pf.spec (eM.one hN.1.vr.va) ?_
  simp -dsimp only[go_sem,aa];obtain⟨hK,L⟩:=Rm j om;have hb:Bd (j+(j+1)) (j+1) 27 (qO j G jT):=fun r k Z I=>by
   unfold qO;split
   .rename_i hr2;have:=hsm r k hr2 I;show(G r k).natAbs<=2^27;omega
   .unfold jT;split<;>simp
  have hf:∀r,r<j->∃M,M≠0/\eU j (j+1) G (gH M r):=fun r _=>⟨(p:Int)*p,om,(Q _).2 (LY r)⟩
  rcases Ir j 27 G h1 om hK L hb hf with⟨B,b1,b2,W⟩|hno
  .have hNb:=hNB B b1 b2 fun y=>(W y).trans (Q y);refine(Iq j 27 G B h1 om hK L hb hf b1 b2 W).call ?_;simp -dsimp only[go_sem,aa];refine(wX j j B h1 om h1 om (fun r k Z I=>by have:=hNb.ent N Z I;unfold gU;omega) _ _ (cD _ _)).mono ?_
   rintro _ S3 ⟨W,g3,rfl,hM3⟩;simp only[go_sem];exact⟨W,rfl,g3,B,hNb,_,hE1.trans hN.2.1,hM3⟩
  .refine(hno.frame (cD _ _) (fun _ _ h=>h.elim)).mono ?_;rintro _ _ ⟨_,h,_⟩;exact h.elim

def MM{b:Int}:decide (0<kC a b)=decide (b<a):=by
 unfold kC;split
 .simp;omega
 .split<;>simp[*]
def I5(f:n<=16)(b:∀i j,i<n->j<n->nb (H i j) k)(c:∀i j,i<n->j<n->nb (B i j) k){i j:Nat}(d:i<n)(e:j<n):nb (lz n H B i j) (k+k+10):=z9 (fun t a=>(b i t d a).mul (c t j a e)) om n (ag n)
def F0(n p:Nat)(H B G:az)(h:1<=n)(Z:n<=8)(C:1<=p)(q:p<=9973)(D:∀i j,i<n->j<n->(H i j).natAbs<=176000)(x:∀i j,i<n->j<n->(B i j).natAbs<=100000000)(K:∀i j,i<n->j<n->mm n (fun i j=>B j i) (mm n H B) i j/((p:Int)*p)=G i j):MF 44 [av n n H,ι p,av n n B] n n G:=by
 have r:∀i j,i<n->j<n->nb (H i j) 27:=fun i j d f=>by have:=D i j d f;unfold nb;omega
 have m:∀i j,i<n->j<n->nb (B i j) 27:=fun i j d f=>by have:=x i j d f;unfold nb;omega
 have E:∀i j,i<n->j<n->nb (lz n H B i j) 100:=fun i j d f=>(I5 om r m d f).mono om;have L:∀i j,i<n->j<n->nb (lz n (fun i j=>B j i) (lz n H B) i j) 300:=fun i j d f=>(I5 (k:=100) (H:=fun i j=>B j i) om (fun a b M N=>(m b a N M).mono om) E d f).mono om;have P:1<=(p:Int)*p/\(p:Int)*p<=99460729:=by
  rw[<-aV];have a:=aX C C;have b:=aX q q;omega
 have Q:ω ((p:Int)*p)=(p:Int)*p:=i64_in om om;refine MF.of (jg func44 ntmps44 results44 ?_);simp -dsimp only[go_sem,aa];refine(yh n n B h om h om (fun i j d f=>by have:=x i j d f;unfold xa;omega)).call ?_
 simp -dsimp only[go_sem,aa];refine(qF n n B 27 h om h om m om).pf.call ?_;simp -dsimp only[go_sem,aa];refine(yh n n H h om h om (fun i j d f=>by have:=D i j d f;unfold xa;omega)).call ?_
 simp -dsimp only[go_sem,aa];refine(yh n n B h om h om (fun i j d f=>by have:=x i j d f;unfold xa;omega)).call ?_
 simp -dsimp only[go_sem,aa];refine(l8 n n n H B 27 h om h om h om r m om).pf.call ?_;simp -dsimp only[go_sem,aa];refine(l8 n n n (fun i j=>B j i) (lz n H B) 100 h om h om h om (fun i j d f=>(m j i f d).mono om) E om).pf.call ?_;simp -dsimp only[go_sem,aa,av];refine(vf _ n n om om).mono ?_;rintro _ S1 ⟨b,g,rfl,l⟩;have l:=l.1;generalize R:lz n (fun i j=>B j i) (lz n H B)=A at *;have y:∀i j,i<n->j<n->A i j/((p:Int)*p)=G i j:=fun i j d f=>by rw[<-R];exact K i j d f
 simp only[go_sem,aP];refine aC (fun O S=>∃i:Nat,i<=n/\dr S b g n n (qT i (fun _ _=>0) G)/\O 1=ι p/\O 9=aP n n A/\O 10=ϑ b 0 n/\O 32=ι n/\O 33=ι i) (fun O S=>n-bO (O 33)) ?_ ?_
 .simp only[go_sem,aP];exact⟨0,om,by rw[ms];exact l,rfl⟩
 clear l;rintro O S ⟨i,d,l,F,I,s,t,u⟩;by_cases o:i<n
 .simp only[*,go_sem,aP];refine aC (fun O S=>∃j:Nat,j<=n/\dr S b g n n (fun a c=>if a=i then(if c<j then G a c else 0)else qT i (fun _ _=>0) G a c)/\O 1=ι p/\O 9=aP n n A/\O 10=ϑ b 0 n/\O 11=ι i/\O 32=ι n/\O 33=ι i/\O 37=ι n/\O 38=ι j) (fun O S=>n-bO (O 38)) ?_ ?_
  .simp only[*,go_sem,aP];refine⟨0,om,l.congr fun a c _ _=>?_,rfl⟩
   by_cases e:a=i
   .subst e;simp[qT]
   .simp[e]
  clear F I s t u l;rintro O S ⟨j,f,l,F,I,s,T,t,u,U,V⟩;by_cases v:j<n
  .obtain⟨W,u1,X⟩:=l.outer;obtain⟨g2,Y,v2⟩:=l.row i o;have x1:W i=ϕ (g i) 0 n:=X i o;simp -dsimp only[*,go_sem,aP,bn];refine aN 18 kr ?_
   simp only[*,go_sem,aa,aP,bn];refine⟨_,(fA (a:=(p:Int)*p) om om).pure',_,(mZ (k:=300) (L i j o v) (show nb ((p:Int)*p) 300 by exact nb.mono (k:=27) (by unfold nb;omega) om) om om).pure',?_⟩
   rw[y i j o v];simp only[go_sem,aF (om:j<1000000),bO]
   refine⟨⟨j+1,om,(l.set (j:=j) (z:=G i j) o Y).congr fun a c _ _=>?_,rfl⟩,om⟩
   simp only[dU];by_cases e:a=i
   .subst e;by_cases J:c=j
    .subst J;simp
    .simp only[J,Ti,aI,aH];by_cases w:c<j
     .rw[aj w,aj om]
     .rw[ah w,ah om]
   .simp[e]
  .simp only[*,go_sem,aP,aF (om:i<1000000),bO]
   refine⟨⟨i+1,om,l.congr fun a c _ hc=>?_,rfl⟩,om⟩
   by_cases e:a=i
   .subst e;simp[qT];omega
   .simp only[e,aI,qT];by_cases w:a<i
    .rw[aj w,aj om]
    .rw[ah w,ah om]
 .obtain rfl:i=n:=om
  simp only[*,go_sem];exact⟨b,rfl,g,oC l⟩
def F2(S:St)(n p:Nat)(H:az)(v:Nat->Nat)(o:eQ n H)(K:jw (det n H) p)(q:nI p)(L:jn n p H v) :
  cI 15 [av n n H,ι p,aK n (fun k=>v k)] S (fun r S'=>∃b g B S1,r=.tup [ϑ b 0 n,ι 0]/\tC n p H v B/\dh S S1/\gZ S1 S' b g n n (ko n p H B)):=by
 have A:=o.one;have J:=p6 q;refine jg func15 ntmps15 results15 ?_;simp -dsimp only[go_sem,aa];refine(vP S n p H v o K q L).mono ?_;rintro _ S1 ⟨b,g,B,S0,rfl,C,D,s⟩;have M:=o.eight;have N:=s.1;have P:=D.trans s.2.1;simp -dsimp only[go_sem,aa,aR];have t:∀i j,i<n->j<n->(ko n p H B i j).natAbs<=1120325651456000:=fun i j l m=>C.gent o q l m;refine(F0 n p H B (ko n p H B) A om om om (fun i j l m=>by have:=o.ent i j l m;omega) (fun i j l m=>by have:=C.ent q l m;have:=p6z q;omega) (fun i j l m=>by
  rw[<-oc];unfold ko;rw[aj ⟨l,m⟩])).pf.spec (eM.three (VA.refl _ _) (VA.refl _ _) N.vr.va) ?_
 generalize R:ko n p H B=Q at *;simp only[go_sem,aP];refine aC (fun O S'=>∃i:Nat,i<=n/\dh S1 S'/\O 10=aP n n Q/\O 31=aP n n Q/\O 32=ι n/\O 33=ι i) (fun O S=>n-bO (O 33)) ?_ ?_
 .simp only[go_sem,aP];exact⟨0,om,dh.refl _,rfl⟩
 rintro O S2 ⟨i,l,c,d,e,f,h⟩;by_cases E:i<n
 .simp only[*,go_sem,aa,aP];refine aC (fun O S'=>∃j:Nat,j<=n/\dh S1 S'/\O 10=aP n n Q/\O 31=aP n n Q/\O 32=ι n/\O 33=ι i/\O 37=bn n (Q i)/\O 38=ι n/\O 39=ι j) (fun O S=>n-bO (O 39)) ?_ ?_
  .simp only[go_sem,aP,bn,d,e,f,h];exact⟨0,om,c,rfl⟩
  clear c d e f h;rintro O S2 ⟨j,m,c,d,e,f,h,u,w,x⟩;by_cases y:j<n
  .have W:=t i j E y;have F:nb (Q i j) 64:=by unfold nb;omega
   simp -dsimp only[*,go_sem,aP,bn];refine ax.intro fun T z=>?_;simp -dsimp only[go_sem,aa,aL];have G:=(c.upd (c.none z) ⟨50,2,1,fun _=>ϱ 0⟩).upd (c.none z) ⟨50,2,1,aL (fun _=>ϱ 0) 0 (ϱ (Q i j))⟩;refine(yJ F om).call ?_;simp -dsimp only[go_sem,aa,aL];refine(fA (a:=4611686018427387904) om om).call ?_;simp -dsimp only[go_sem,aa,aL];refine(qr (k:=64) (a:=((Q i j).natAbs:Int)) (b:=4611686018427387904) (by unfold nb at *;omega) (by unfold nb;omega) om).call ?_
   simp only[go_sem,aP,bn,d,e,f,h,u,w,x,MM,(om:¬((4611686018427387904:Int)<((Q i j).natAbs:Int))),aF (om:j<1000000),bO]
   exact⟨⟨j+1,om,G,rfl⟩,om⟩
  .simp only[go_sem,aP,bn,d,e,f,h,u,w,x,y,aF (om:i<1000000),bO]
   exact⟨⟨i+1,om,c,rfl⟩,om⟩
 .simp -dsimp only[*,go_sem,aa,aP];refine(wX n n Q A om A om (fun i j l m=>by have:=t i j l m;unfold gU;omega) _ _ (cD _ _)).mono ?_
  rintro _ S3 ⟨U,V,rfl,I⟩;simp only[go_sem];exact⟨U,rfl,V,B,C,_,P.trans c,by rw[R];exact I⟩

def bI.lst_congr{w:World}{es:Nat}(h:∀i,i<n->g i=g' i){v:Value}(a:bI w M (.lst es n g) v):bI w M (.lst es n g') v:=by
 simp only[bI]at a ⊢;obtain⟨A,c,e,f,k⟩:=a;refine⟨A,c,e,f,fun l=>?_⟩;obtain⟨b,off,m,o,p,q⟩:=k l;exact⟨b,off,m,o,p,fun j d=>by rw[<-h j d];exact q j d⟩
def cI.frz{P:AV->Prop}(h:cI f args S (fun r S'=>∃z,(∀w v,eF w S'->bI w S'.dom r v->bI w S.dom z v)/\dh S S'/\P z)):cI f args S (fun r S'=>P r/\S'=S):=by
 intro w vs b c;refine(h w vs b c).mono ?_;rintro e w' ⟨v,r,S1,rfl,⟨z,d,g,i⟩,j,a,k⟩;obtain⟨l,m⟩:=a.less g;exact⟨v,z,S,rfl,⟨i,rfl⟩,d w' v a j,l,k.weaken m⟩
def VR.frz{S' So:St}{r:AV}(h:VR So r z)(c:∀b X,So b=some X->S' b=some X)(d:∀b,So b≠ae->S b=ae)(w:World)(v:Value)(e:eF w S')(f:bI w S'.dom r v):bI w S.dom z v:=by
 obtain⟨g,i⟩:=e.less c;exact bI.turn (fun k _ a j=>a (d k j)) _ _ (h w v g (bI.turn (fun k _ a=>i k a) _ _ f))
def gZ.freeze{P:AV->Prop}(h:cI f args S (fun r S'=>∃b g n B S1,r=.tup [.sl 1 b 0 n,.int .i64 0]/\dh S S1/\gZ S1 S' b g n n B/\P (.tup [av n n B,.int .i64 0]))):cI f args S (fun r S'=>P r/\S'=S):=by
 refine cI.frz (h.mono ?_);rintro _ S' ⟨b,g,n,B,S1,rfl,j,a,l⟩;have m:S b=ae:=j.none a.2.2.1;have o:∀i,i<n->S (g i)=ae:=fun i k=>j.none (a.2.2.2 i k);refine⟨_,VR.frz (VR.tup2 a.1.only.1.vr (VR.mf rfl)) (iT S' b g n) fun c d=>?_,j.trans a.2.1,l⟩;unfold eN at d;split at d
 .rename_i e;rw[e];exact m
 .split at d
  .rename_i e;obtain⟨i,k,e⟩:=e;rw[e];exact o i k
  .exact absurd rfl d

def F9(f:Nat)(args:List AV)(c:Int):Prop:=∀S,kT S->cI f args S (fun r S'=>r=.tup [.nil,ι c]/\dh S S')
def CJ{v:AV}{p c:Int}(a:c≠0)(b:∀S,kT S->cI 174 [h,ι p] S (fun r S'=>r=ι c/\dh S S')):F9 121 [h,ι p,v] c:=fun S d=>by
 refine jg func121 TC SU ?_;simp -dsimp only[go_sem,aa];refine(b S d).mono ?_;rintro _ S1 ⟨rfl,e⟩;simp only[go_sem,aa,show(c != 0)=true by simpa using a]
 exact e
def KW{v:AV}{p:Int}(a:∀S,kT S->cI 174 [h,ι p] S (fun r S'=>r=ι 0/\dh S S'))(b:PF 175 [h,ι p,v] (.bool false)):F9 121 [h,ι p,v] 26:=fun S c=>by
 refine jg func121 TC SU ?_;simp -dsimp only[go_sem,aa];refine(a S c).mono ?_;rintro _ S1 ⟨rfl,d⟩;simp -dsimp only[go_sem,aa,aR];refine b.call ?_;simp only[go_sem,aa];exact d
def Ct{x:AV}{c:Int}(a:c≠0)(h:F9 121 [x,y,z] c):F9 59 [x,y,z] c:=fun S b=>by
 refine jg func59 ntmps59 results59 ?_;simp -dsimp only[go_sem,aa];refine(h S b).mono ?_;rintro _ S1 ⟨rfl,d⟩;simp only[go_sem,aa,show(c != 0)=true by simpa using a]
 exact d
def L1{x:AV}{c:Int}(a:c≠0)(h:F9 59 [x,y,z] c)(S:St)(b:kT S):cI 41 [x,y,z] S (fun r S'=>r=.tup [.nil,.nil,ι c]/\dh S S'):=by
 refine jg func41 ntmps41 results41 ?_;simp -dsimp only[go_sem,aa];refine(h S b).mono ?_;rintro _ S1 ⟨rfl,d⟩;simp only[go_sem,aa,show(c != 0)=true by simpa using a]
 exact d

def lW(m:Nat)(len:Nat->Nat)(A:az):AV:=.lst 1 m (fun i=>aK (len i) (A i))
def SqR(m:Nat)(len:Nat->Nat):Prop:=1<=m/\m<=8/\∀i,i<m->len i=m
def Ff(m:Nat)(len:Nat->Nat)(A:az)(l:m<=12)(h:¬SqR m len):PF 107 [lW m len A] (.bool false):=by
 refine iy func107 ntmps107 results107 ?_;by_cases n:m<1
 .simp only[go_sem,aK,lW,show(m:Int)<1 by omega]
  exact VR.mf rfl
 by_cases o:8<m
 .simp only[go_sem,aK,lW,(om:¬((m:Int)<1)),show(8:Int)<(m:Int) by omega]
  exact VR.mf rfl
 simp only[go_sem,aK,lW,(om:¬((m:Int)<1)),(om:¬((8:Int)<(m:Int)))]
 refine aC (fun O S=>∃i:Nat,i<=m/\(∀a,a<i->len a=m)/\O 0=lW m len A/\O 3=.int .i64 m/\O 18=lW m len A/\O 19=.int .i64 m/\O 20=.int .i64 i) (fun O S=>m-bO (O 20)) ?_ ?_
 .simp only[go_sem,aK,lW];exact⟨0,om,fun a c=>om,rfl⟩
 .rintro O S ⟨i,p,b,q,r,f,g,j⟩;by_cases k:i<m
  .by_cases d:len i=m
   .simp only[*,go_sem,aK,lW,show(((len i:Nat):Int) != (m:Int))=false by rw[d];simp,aF (om:i<1000000),bO]
    refine⟨⟨i+1,om,fun a c=>?_,rfl⟩,om⟩
    by_cases e:a=i
    .rw[e];exact d
    .exact b a om
   .simp only[*,go_sem,aK,lW,show(((len i:Nat):Int) != (m:Int))=true by simp;omega]
    exact VR.mf rfl
  .exact absurd ⟨om,om,fun a c=>b a om⟩ h
def yA(m:Nat)(len:Nat->Nat)(A:az)(a:m<=12)(h:¬SqR m len):PF 48 [lW m len A] (.bool false):=by
 refine iy func48 ntmps48 results48 ?_;simp -dsimp only[go_sem,aa];refine(Ff m len A a h).call ?_;simp only[go_sem];exact VR.mf rfl
def Ks(m:Nat)(len:Nat->Nat)(A:az)(p:Int)(a:m<=12)(h:¬SqR m len)(S:St)(_hG:kT S):cI 174 [lW m len A,.int .i64 p] S (fun r S'=>r=.int .i64 6/\dh S S'):=by
 refine jg func174 ntmps174 results174 ?_;simp -dsimp only[go_sem,aa];refine(yA m len A a h).call ?_;simp only[go_sem,aa];exact dh.refl S

def CA(n m:Nat)(A:az)(o:n<=16)(p:m<=16):PF 20 [av n m A,av n m A] (.bool true):=by
 refine iy func20 ntmps20 results20 ?_;simp only[go_sem,av,aK,aR];refine cf (fun O S=>∃i:Nat,i<=n/\O 0=av n m A/\O 1=av n m A/\O 13=.int .i64 n/\O 14=.int .i64 i) (fun O S=>n-bO (O 14)) ?_ ?_
 .simp only[go_sem,av,aK];exact⟨0,om,rfl⟩
 rintro Q' g O S ⟨i,q,h,k,a,b⟩;by_cases c:i<n
 .simp -dsimp only[go_sem,a,b,c,av,aK];refine aN 11 kr ?_
  simp only[go_sem,aa,h,k,c,av,aK,aR];refine cf (fun O S=>∃j:Nat,j<=m/\O 0=av n m A/\O 1=av n m A/\O 5=.int .i64 i/\O 13=.int .i64 n/\O 14=.int .i64 i/\O 32=.int .i64 m/\O 33=.int .i64 j) (fun O S=>m-bO (O 33)) ?_ ?_
  .simp only[*,go_sem,av,aK];exact⟨0,om,rfl⟩
  clear h k a b;clear O S;rintro Q2 l O S ⟨j,r,h,k,s,a,b,d,e⟩;by_cases f:j<m
  .simp -dsimp only[go_sem,d,e,f,av,aK];refine aN 15 kr ?_
   simp only[*,go_sem,aa,av,aK,aR,aF (om:j<1000000),bO]
   exact⟨⟨j+1,om,rfl⟩,om⟩
  .simp only[go_sem,d,e,f];rw[l];simp only[*,go_sem,aF (om:i<1000000),bO]
   exact⟨⟨i+1,om,rfl,rfl,rfl⟩,om⟩
 .simp only[go_sem,a,b,c];rw[g];simp only[go_sem];exact VR.mf rfl
def Et(f:Nat)(args:List AV)(z:AV):Prop:=∀S,kT S->cI f args S (fun r S'=>r=z/\dh S S')
def PF.ge(h:PF f args z):Et f args z:=fun S _=>h.call ⟨rfl,dh.refl S⟩
def se{B':az}(h:∀i j,i<n->j<n->B i j=B' i j):ko n p H B=ko n p H B':=by
 funext i j;unfold ko;split
 .rename_i a;congr 1;exact rk (fun k b=>rk (fun l c=>h l i c a.1) fun _ _=>rfl) fun k b=>h k j b a.2
 .rfl
theorem xQ{v v':Nat->Int}:∀{n:Nat},(∀i,i<n->v i=v' i)->il v n=il v' n
 | 0,_=>rfl
 | n+1,h=>by simp only[il];rw[xQ fun i a=>h i om,h n om]
def Dj(h:∀i,i<n->v i=v' i):eE n H v n=eE n H v' n:=by
 unfold eE;exact ay fun i a=>by rw[h i a,ay fun j b=>by rw[h j b]]
def CI.nat(h:CI n p H v):jn n p H (fun k=>(v k).toNat)/\∀i,i<n->v i=(((v i).toNat:Nat):Int):=by
 have a:∀i,i<n->v i=(((v i).toNat:Nat):Int):=fun i b=>by have:=h.1 i b;omega
 exact⟨⟨fun i b=>by have:=h.1 i b;omega,by rw[<-xQ a];exact h.2.1,by rw[<-Dj a];exact h.2.2⟩,a⟩
def J9{p:Int}(h:ro n H p=0):eQ n H/\rQ p/\¬det n H%p=0:=by
 unfold ro at h;split at h
 .rename_i a;split at h
  .rename_i b;exact⟨a,b⟩
  .omega
 .omega

def Lf(S:St)(b P:Nat):Prop:=aY S b 202 1 2 (fun j=>if j=0 then .int .u64 ((P/18446744073709551616:Nat):Int)else .int .u64 ((P%18446744073709551616:Nat):Int))
def Lf.put{P:Nat}:Lf (S.upd b ⟨202,1,2,fy g 0 [.int .u64 ((P/18446744073709551616:Nat):Int),.int .u64 ((P%18446744073709551616:Nat):Int)]⟩) b P :=
 ⟨_,bW,fun j a=>by
  rcases (om:j=0∨j=1)with rfl|rfl<;>simp[fy]⟩
def Lf.get{P:Nat}(h:Lf S b P):∃g,S b=some ⟨202,1,2,g⟩/\ed g 0 2=[.int .u64 ((P/18446744073709551616:Nat):Int),.int .u64 ((P%18446744073709551616:Nat):Int)]:=by
 obtain⟨g,u,w⟩:=h;exact⟨g,u,by simp[ed,w 0 om,w 1 om]⟩
def ra(h:X<9223372036854775808):IntKind.u64.wrap (X:Int)=X:=by rw[ci];omega
def Dl(h:X<9223372036854775808):ω (0-(-(X:Int)))=X:=by rw[show(0-(-(X:Int)))=X by omega];exact i64_in om om
def In(S:St)(b c i:Nat)(a v:Nat->Int):Prop:=∃P N:Nat,Lf S b P/\Lf S c N/\(P:Int)-N=ap i (fun j=>a j*v j)/\P<=i*10141204801825835211973625643008/\N<=i*10141204801825835211973625643008
def GR(h:¬0<=x):∃X:Nat,x=-(X:Int)/\0<X:=⟨x.natAbs,om,om⟩
def In.next{Y P P' N':Nat}{a:Nat->Int}(g:Lf S b P')(k:Lf S c N')(h:(P:Int)-N=ap i (fun j=>a j*v j))(bXY:X*Y<=10141204801825835211973625643008)(bP:P<=i*10141204801825835211973625643008)(bN:N<=i*10141204801825835211973625643008)
  (d:(P'=P+X*Y/\N'=N/\a i*v i=(X:Int)*Y)∨(P'=P/\N'=N+X*Y/\a i*v i=-((X:Int)*Y))):In S b c (i+1) a v:=by
 have e:((X*Y:Nat):Int)=(X:Int)*Y:=aV X Y;have eK:=cj i 10141204801825835211973625643008;refine⟨P',N',g,k,?_,?_,?_⟩
 .simp only[ap];rcases d with⟨rfl,rfl,f⟩|⟨rfl,rfl,f⟩<;>rw[f,<-h]<;>generalize (X:Int)*Y=Z at*<;> omega
 .clear h e;rw[eK];generalize 10141204801825835211973625643008=K at *;rcases d with⟨rfl,rfl,_⟩|⟨rfl,rfl,_⟩<;>omega
 .clear h e;rw[eK];generalize 10141204801825835211973625643008=K at *;rcases d with⟨rfl,rfl,_⟩|⟨rfl,rfl,_⟩<;>omega
def Ju{a c B:Code}(h:∀B,Aw (.seq a (.seq c B)) Q O S):Aw (.seq a (.seq c B)) Q O S:=h B
def Mz(s:Int):AV:=.tup [ι (if s.natAbs<=4611686018427387904 then s else 0),.bool (decide (s.natAbs<=4611686018427387904))]
def Kh(n:Nat)(a v:Nat->Int)(K:n<=16)(E:∀i,i<n->(a i).natAbs<=1099511627776)(F:∀j,j<n->(v j).natAbs<9223372036854775808) :
  PF 168 [aK n a,aK n v] (Mz (ap n (fun j=>a j*v j))):=by
 refine iy func168 ntmps168 results168 ?_;simp only[go_sem,aK];refine ax.intro fun bb fb=>?_
 try simp only[go_sem]
 refine ax.intro fun bc fc=>?_;have nc_b:=(af fc).1
 try simp only[go_sem]
 refine cf (fun O S=>∃i:Nat,i<=n/\O 1=aK n v/\O 6=ϰ bb 0/\O 7=ϰ bc 0/\O 15=aK n a/\O 16=ι n/\O 17=ι i/\In S bb bc i a v) (fun O S=>n-bO (O 17)) ?_ ?_
 .simp only[go_sem,aK];exact⟨0,om,rfl,0,0,(aY.here fun j G=>by simp).upd (ai nc_b) _,aY.here fun j G=>by simp,by simp[ap],om,om⟩
 rintro Q' A O S ⟨i,L,z,q,r,m,e,f,P,N,C,D,s,bP,bN⟩;obtain⟨g,u,w⟩:=C.get;obtain⟨g',u',w'⟩:=D.get;have H:¬((2:Nat)=1):=by decide
 have bP':P<=162259276829213363391578010288128:=by
  have:=aq 10141204801825835211973625643008 (om:i<=16)
  omega
 have bN':N<=162259276829213363391578010288128:=by
  have:=aq 10141204801825835211973625643008 (om:i<=16)
  omega
 by_cases b:i<n
 .have I:=E i b;have J:=F i b;have M:=aF (om:i<1000000)
  have o:(a i).natAbs*(v i).natAbs<=10141204801825835211973625643008:=bQ (aX I (du J)) dc
  by_cases t:0<=a i
  .obtain⟨X,d⟩:=tK t;have bX:X<9223372036854775808:=om
   have nX:¬((X:Int)<0):=om
   by_cases k:0<=v i
   .obtain⟨Y,c⟩:=tK k;have bY:Y<9223372036854775808:=om
    have bXY:X*Y<=10141204801825835211973625643008:=by have h:=o;rw[d,c]at h;simpa using h
    simp -dsimp only[go_sem,aa,z,q,r,m,e,f,b,aK,d,c,cO,u,u',ra bX,ra bY]
    repeat refine an ?_
    try simp -dsimp only[go_sem,w]
    refine(yD (W:=P) (om:X<18446744073709551616) (om:Y<18446744073709551616) om).call ?_
    simp only[*,go_sem,bO,P5,cL,iu,aU,bF,ca,cA]
    repeat refine an ?_
    exact⟨⟨i+1,om,rfl,rfl,rfl,In.next Lf.put (D.upd nc_b _) s bXY bP bN (a6 ⟨rfl,rfl,by rw[d,c]⟩)⟩,om⟩
   .obtain⟨Y,c,pY⟩:=GR k;have bY:Y<9223372036854775808:=om
    have bXY:X*Y<=10141204801825835211973625643008:=by have h:=o;rw[d,c]at h;simpa using h
    simp -dsimp only[go_sem,aa,z,q,r,m,e,f,b,aK,d,c,cO,nX,(om:¬((0:Int)<=-(Y:Int))),u,u',ra bX,ra bY,Dl bY]
    repeat refine an ?_
    try simp -dsimp only[go_sem,w']
    refine(yD (W:=N) (om:X<18446744073709551616) (om:Y<18446744073709551616) om).call ?_
    simp only[*,go_sem,bO,P5,cL,iu,aU,bF,ca,cA]
    repeat refine an ?_
    exact⟨⟨i+1,om,rfl,rfl,rfl,In.next (C.upd (ai nc_b) _) Lf.put s bXY bP bN (aQ ⟨rfl,rfl,by rw[d,c];exact mU _ _⟩)⟩,om⟩
  .obtain⟨X,d,pX⟩:=GR t;have bX:X<9223372036854775808:=om
   have nX:¬((0:Int)<=-(X:Int)):=om
   have nX':-(X:Int)<0:=om
   by_cases k:0<=v i
   .obtain⟨Y,c⟩:=tK k;have bY:Y<9223372036854775808:=om
    have bXY:X*Y<=10141204801825835211973625643008:=by have h:=o;rw[d,c]at h;simpa using h
    simp -dsimp only[go_sem,aa,z,q,r,m,e,f,b,aK,d,c,cO,nX,nX',(om:¬((Y:Int)<0)),u,u',ra bX,ra bY,Dl bX]
    repeat refine an ?_
    try simp -dsimp only[go_sem,w']
    refine(yD (W:=N) (om:X<18446744073709551616) (om:Y<18446744073709551616) om).call ?_
    simp only[*,go_sem,bO,P5,cL,iu,aU,bF,ca,cA]
    repeat refine an ?_
    exact⟨⟨i+1,om,rfl,rfl,rfl,In.next (C.upd (ai nc_b) _) Lf.put s bXY bP bN (aQ ⟨rfl,rfl,by rw[d,c];exact sF _ _⟩)⟩,om⟩
   .obtain⟨Y,c,pY⟩:=GR k;have bY:Y<9223372036854775808:=om
    have bXY:X*Y<=10141204801825835211973625643008:=by have h:=o;rw[d,c]at h;simpa using h
    simp -dsimp only[go_sem,aa,z,q,r,m,e,f,b,aK,d,c,nX,nX',(om:-(Y:Int)<0),u,u',ra bX,ra bY,Dl bX,Dl bY]
    repeat refine an ?_
    try simp -dsimp only[go_sem,w]
    refine(yD (W:=P) (om:X<18446744073709551616) (om:Y<18446744073709551616) om).call ?_
    simp only[*,go_sem,bO,P5,cL,iu,aU,bF,ca,cA]
    repeat refine an ?_
    exact⟨⟨i+1,om,rfl,rfl,rfl,In.next Lf.put (D.upd nc_b _) s bXY bP bN (a6 ⟨rfl,rfl,by rw[d,c];exact qf _ _⟩)⟩,om⟩
 have x:i=n:=om
 refine Ju fun B=>?_;simp only[go_sem,e,f,b];rw[x]at s;rw[A,<-s];simp -dsimp only[go_sem,aa,q,r,u,u']
 repeat refine an ?_
 try simp -dsimp only[*,go_sem]
 refine(BV (W:=P) (V:=N) om om).call ?_;by_cases y:N<=P/\P-N<=4611686018427387904
 .rw[aj y,nE y];simp only[go_sem,aa,q,r,u,w,u',w'];have p:((P:Int)-N).natAbs<=4611686018427387904:=om
  unfold Mz;rw[aj p,nE p,pi y.1];exact VR.mf rfl
 .rw[ah y,pZ y];simp -dsimp only[go_sem,aa,q,r,u,w,u',w']
  repeat refine an ?_
  try simp -dsimp only[*,go_sem]
  refine(BV (W:=N) (V:=P) om om).call ?_;by_cases p:P<=N/\N-P<=4611686018427387904
  .rw[aj p,nE p];simp only[go_sem,show ω (0-((N-P:Nat):Int))=(P:Int)-N by rw[pi p.1];rw[(om:0-((N:Int)-P)=(P:Int)-N)];exact i64_in om om]
   have l:((P:Int)-N).natAbs<=4611686018427387904:=om
   unfold Mz;rw[aj l,nE l];exact VR.mf rfl
  .rw[ah p,pZ p];simp only[go_sem,show ω (0-(0:Int))=0 from rfl];have l:¬((P:Int)-N).natAbs<=4611686018427387904:=om
   unfold Mz;rw[ah l,pZ l];exact VR.mf rfl

def F5(n:Nat)(a b:Nat->Int)(β:Bool)(m:n<=16)(hβ:β=true↔∀i,i<n->a i=b i):PF 52 [aK n a,aK n b] (.bool β):=by
 refine iy func52 ntmps52 results52 ?_;simp only[go_sem,aK,aR];refine aC (fun O S=>∃i:Nat,i<=n/\(∀k,k<i->a k=b k)/\O 0=aK n a/\O 1=aK n b/\O 12=ι n/\O 13=ι i) (fun O S=>n-bO (O 13)) ?_ ?_
 .simp only[go_sem,aK];exact⟨0,om,fun k g=>om,rfl⟩
 .rintro O S ⟨i,o,c,p,q,j,l⟩;by_cases d:i<n
  .by_cases f:a i=b i
   .simp -dsimp only[*,go_sem,aK];refine aN 9 kr ?_
    simp only[*,go_sem,aa,aK,aR,aF (om:i<1000000),bO]
    refine⟨⟨i+1,om,fun k g=>?_,rfl⟩,om⟩
    by_cases e:k=i
    .rw[e];exact f
    .exact c k om
   .simp -dsimp only[*,go_sem,aK];refine aN 9 kr ?_
    simp only[*,go_sem,aa,aK,show(a i != b i)=true by simpa using f]
    rw[dC hβ fun h=>f (h i d)];exact VR.mf rfl
  .simp only[*,go_sem,aK];rw[hβ.2 fun k g=>c k om];exact VR.mf rfl
def yB(n m:Nat)(A B:az)(β:Bool)(q:n<=16)(f:m<=16)(hβ:β=true↔∀i j,i<n->j<m->A i j=B i j):PF 51 [av n m A,av n m B,.fn 52 []] (.bool β):=by
 refine iy func51 ntmps51 results51 ?_;simp only[go_sem,av,aK,aR];refine aC (fun O S=>∃i:Nat,i<=n/\(∀k j,k<i->j<m->A k j=B k j)/\O 1=av n m B/\O 2=.fn 52 []/\O 15=av n m A/\O 16=ι n/\O 17=ι i) (fun O S=>n-bO (O 17)) ?_ ?_
 .simp only[go_sem,av,aK];exact⟨0,om,fun k j d=>om,rfl⟩
 .rintro O S ⟨i,r,b,s,t,g,l,o⟩;by_cases c:i<n
  .obtain⟨γ,hγ⟩:=oM (∀j,j<m->A i j=B i j);simp -dsimp only[*,go_sem,aa,av];refine(F5 m (A i) (B i) γ f hγ).call ?_
   cases γ with
   | true =>
    have p:=hγ.1 rfl;simp only[*,go_sem,aF (om:i<1000000),bO]
    refine⟨⟨i+1,om,fun k j d a=>?_,rfl,rfl,rfl⟩,om⟩
    by_cases e:k=i
    .rw[e];exact p j a
    .exact b k j om a
   | false =>
    simp only[*,go_sem];rw[dC hβ fun h=>by have:=hγ.2 (fun j a=>h i j c a);cases this]
    exact VR.mf rfl
  .simp only[*,go_sem,aa,av];rw[hβ.2 fun k j d a=>b k j om a];exact VR.mf rfl
def qS(m:Nat)(len:Nat->Nat)(T:az):AV:=.lst 1 m (fun i=>aK (len i) (T i))
def C7(n m:Nat)(len:Nat->Nat)(T:az)(β:Bool)(p:m<=16)(hβ:β=true↔m=n/\∀i,i<m->len i=n):PF 49 [qS m len T,ι n] (.bool β):=by
 refine iy func49 ntmps49 results49 ?_;simp only[go_sem,qS,aK];refine aC (fun O S=>∃i:Nat,i<=m/\(∀k,k<i->len k=n)/\O 0=qS m len T/\O 1=ι n/\O 7=qS m len T/\O 8=ι m/\O 9=ι i) (fun O S=>m-bO (O 9)) ?_ ?_
 .simp only[go_sem,qS,aK];exact⟨0,om,fun k d=>om,rfl⟩
 .rintro O S ⟨i,q,a,f,g,j,l,o⟩;by_cases b:i<m
  .by_cases c:len i=n
   .simp only[*,go_sem,qS,aK,aR,aF (om:i<1000000),bO]
    refine⟨⟨i+1,om,fun k d=>?_,rfl⟩,om⟩
    by_cases e:k=i
    .rw[e];exact c
    .exact a k om
   .simp only[*,go_sem,qS,aK,show(((len i:Nat):Int) != (n:Int))=true by simp;omega]
    rw[dC hβ fun h=>c (h.2 i b)];exact VR.mf rfl
  .by_cases c:m=n
   .simp only[go_sem,qS,aK,f,g,j,l,o,b,show(((m:Nat):Int)==(n:Int))=true by simp;omega]
    rw[hβ.2 ⟨c,fun k d=>a k om⟩];exact VR.mf rfl
   .simp only[*,go_sem,qS,aK,show(((m:Nat):Int)==(n:Int))=false by simp;omega]
    rw[dC hβ fun h=>c h.1];exact VR.mf rfl
def Ea(n m:Nat)(len:Nat->Nat)(T:az)(β:Bool)(p:m<=16)(hβ:β=true↔m=n/\∀i,i<m->len i=n):PF 22 [qS m len T,ι n] (.bool β):=by
 refine iy func22 ntmps22 results22 ?_;simp only[go_sem,qS,aK];refine aC (fun O S=>∃i:Nat,i<=m/\(∀k,k<i->len k=n)/\O 0=qS m len T/\O 1=ι n/\O 7=qS m len T/\O 8=ι m/\O 9=ι i) (fun O S=>m-bO (O 9)) ?_ ?_
 .simp only[go_sem,qS,aK];exact⟨0,om,fun k d=>om,rfl⟩
 .rintro O S ⟨i,q,a,f,g,j,l,o⟩;by_cases b:i<m
  .by_cases c:len i=n
   .simp only[*,go_sem,qS,aK,aR,aF (om:i<1000000),bO]
    refine⟨⟨i+1,om,fun k d=>?_,rfl⟩,om⟩
    by_cases e:k=i
    .rw[e];exact c
    .exact a k om
   .simp only[*,go_sem,qS,aK,show(((len i:Nat):Int) != (n:Int))=true by simp;omega]
    rw[dC hβ fun h=>c (h.2 i b)];exact VR.mf rfl
  .by_cases c:m=n
   .simp only[go_sem,qS,aK,f,g,j,l,o,b,show(((m:Nat):Int)==(n:Int))=true by simp;omega]
    rw[hβ.2 ⟨c,fun k d=>a k om⟩];exact VR.mf rfl
   .simp only[*,go_sem,qS,aK,show(((m:Nat):Int)==(n:Int))=false by simp;omega]
    rw[dC hβ fun h=>c h.1];exact VR.mf rfl
def Ae(n:Nat)(a:Nat->Int)(β:Bool)(f:n<=16)(hβ:β=true↔∀i,i<n->(a i).natAbs<=1099511627776):PF 214 [aK n a] (.bool β):=by
 refine iy func214 ntmps214 results214 ?_;simp only[go_sem,aK];refine aC (fun O S=>∃i:Nat,i<=n/\(∀k,k<i->(a k).natAbs<=1099511627776)/\O 5=aK n a/\O 6=ι n/\O 7=ι i) (fun O S=>n-bO (O 7)) ?_ ?_
 .simp only[go_sem,aK];exact⟨0,om,fun k d=>om,rfl⟩
 .rintro O S ⟨i,g,b,j,l,m⟩;by_cases c:i<n
  .by_cases o:a i < -1099511627776
   .simp only[*,go_sem,aK];rw[dC hβ fun h=>by have:=h i c;omega]
    exact VR.mf rfl
   by_cases p:1099511627776<a i
   .simp only[*,go_sem,aK];rw[dC hβ fun h=>by have:=h i c;omega]
    exact VR.mf rfl
   simp only[*,go_sem,aK,aF (om:i<1000000),bO]
   refine⟨⟨i+1,om,fun k d=>?_,rfl⟩,om⟩
   by_cases e:k=i
   .rw[e];omega
   .exact b k om
  .simp only[*,go_sem,aK];rw[hβ.2 fun k d=>b k om];exact VR.mf rfl
def Fn(n:Nat)(a:Nat->Int)(β:Bool)(b:n<=16)(hβ:β=true↔∀i,i<n->(a i).natAbs<=1099511627776):PF 166 [ι n,aK n a] (.bool β):=by
 refine iy func166 ntmps166 results166 ?_;simp -dsimp only[go_sem,aa,aK,cb];refine(Ae n a β b hβ).call ?_
 cases β<;>simp only[go_sem,cb]
 .exact VR.mf rfl
 .exact VR.mf rfl

def pF(n:Nat)(A B:az)(i j:Nat):Int:=ap n fun k=>B j k*ap n (fun l=>A k l*B i l)
def rt(n:Nat)(A B:az)(i j:Nat):Int:=if j<=i then pF n A B i j else pF n A B j i
def GrR(S:St)(b m k:Nat)(E:az):Prop:=∃g,fv 29 2 1 St.none S b g m m k (fun a c=>ι (E a c))
def Il(n m:Nat)(A B:az):Prop:=(∀i k,i<m->k<n->(B i k).natAbs<=1099511627776)/\∀i j,i<m->j<i+1->(pF n A B i j).natAbs<=4611686018427387904
def yl(n m:Nat)(A B:az)(β:Bool)(r:AV)(S':St):Prop:=(β=true/\∃b g,r=.tup [ϑ b 0 m,.bool true]/\eg S' b g m m (rt n A B))∨(β=false/\r=.tup [.nil,.bool false])
def yl.lift(h:cI f args St.none (yl n m A B β))(S:St)(args':List AV)(i:eM S args' args):cI f args' S (fun r S'=>yl n m A B β r S'/\dh S S'):=by
 have j:cI f args St.none (fun r S'=>yl n m A B β r S'/\clb r=true/\Gl S'):=h.less fun r S' d=>by
  rcases d with⟨a,b,g,rfl,c⟩|⟨a,rfl⟩
  .exact⟨eN S' b g m,iT S' b g m,a6 ⟨a,b,g,rfl,c.only.1⟩,rfl,c.only.2⟩
  .exact⟨St.none,fun _ _ e=>(by cases e),aQ ⟨a,rfl⟩,rfl,fun _ _ e=>(by cases e)⟩
 refine(j.frame i fun r S1 k=>k.2).mono ?_;rintro r S' ⟨S1,⟨d,_,_⟩,l,rfl⟩;refine⟨?_,od S S1⟩;rcases d with⟨a,b,g,rfl,c⟩|⟨a,rfl⟩
 .exact a6 ⟨a,b,g,rfl,(c.join l).1⟩
 .exact aQ ⟨a,rfl⟩
def Cv(d:n<=8)(a:∀i j,i<n->j<n->-262144<A i j/\A i j<262144)(b:∀j,j<n->(v j).natAbs<=1099511627776){i t:Nat}(c:i<n)(e:t<=n):(ap t (fun j=>A i j*v j)).natAbs<=2305843009213693952:=by
 refine bQ (bQ (wo _ _) (qE (B:=288230376151711744) fun j f=>?_)) (aq 288230376151711744 (om:t<=8))
 rw[cP];exact bQ (aX (show(A i j).natAbs<=262144 by have:=a i j c om;omega) (b j om)) dc
def DY(n:Nat)(A:az)(v:Nat->Int)(E:n<=8)(B:∀i j,i<n->j<n->-262144<A i j/\A i j<262144)(C:∀j,j<n->(v j).natAbs<=1099511627776) :
  PF 167 [av n n A,aK n v] (aK n (fun i=>ap n (fun j=>A i j*v j))):=by
 have F:∀i j,i<n->j<n->ω (A i j*v j)=A i j*v j:=fun i j q s=>by
  have h:=aX (show(A i j).natAbs<=262144 by have:=B i j q s;omega) (C j s)
  rw[<-cP]at h;exact i64_in om om
 have G:∀i t,i<n->t<=n->ω (ap t (fun j=>A i j*v j))=ap t (fun j=>A i j*v j):=fun i t q H=>by
  have h:=Cv E B C q H;exact i64_in om om
 refine iy func167 ntmps167 results167 ?_;simp -dsimp only[go_sem,av,aK]
 repeat refine an ?_
 refine ax.intro fun bb fb=>?_
 try simp only[go_sem]
 refine cf (fun O S=>∃i:Nat,i<=n/\O 1=aK n v/\O 5=ϑ bb 0 n/\O 13=av n n A/\O 14=ι n/\O 15=ι i/\oq S bb n (fun r=>if r<i then ap n (fun j=>A r j*v j)else 0)) (fun O S=>n-bO (O 15)) ?_ ?_
 .simp only[go_sem,av,aK];exact⟨0,om,rfl,aY.here fun j s=>by simp⟩
 rintro Q' x O S ⟨i,q,D,y,b,c,d,l⟩;by_cases a:i<n
 .simp only[go_sem,b,c,d,a,av,aK];refine cf (fun O S=>∃j:Nat,j<=n/\O 1=aK n v/\O 5=ϑ bb 0 n/\O 6=ι i/\O 13=av n n A/\O 14=ι n/\O 15=ι i/\O 20=aK n (A i)/\O 21=ι n/\O 22=ι j /\
   oq S bb n (fun r=>if r=i then ap j (fun j=>A i j*v j)else if r<i then ap n (fun j=>A r j*v j)else 0)) (fun O S=>n-bO (O 22)) ?_ ?_
  .simp only[*,go_sem,av,aK];obtain⟨g,u,w⟩:=l;exact⟨0,om,rfl,g,u,fun r k=>(w r k).trans (by by_cases e:r=i<;>simp[e,ap])⟩
  clear D y b c d l;clear O S;rintro Q2 z O S ⟨j,s,D,y,I,b,c,d,m,o,p,l⟩;by_cases f:j<n
  .obtain⟨g,u,w⟩:=id l;have J:g i=ι (ap j (fun j=>A i j*v j)):=(w i a).trans sm
   simp -dsimp only[go_sem,m,o,p,f,aK];refine aN 12 kr ?_
   simp only[*,go_sem,aa,aK,F i j a f,show ap j (fun j=>A i j*v j)+A i j*v j=ap (j+1) (fun j=>A i j*v j)from rfl,G i (j+1) a f,aF (om:j<1000000),bO]
   exact⟨⟨j+1,om,rfl,_,bW,fun r k=>by
    by_cases e:r=i
    .simp[aL,e]
    .exact(ah e).trans ((w r k).trans (by simp[e]))⟩,om⟩
  .simp only[go_sem,aa,m,o,p,f];rw[z];simp only[*,go_sem,aF (om:i<1000000),bO]
   obtain rfl:j=n:=om
   obtain⟨g,u,w⟩:=l;exact⟨⟨i+1,om,rfl,rfl,rfl,g,u,fun r k=>(w r k).trans (by
    by_cases e:r=i
    .simp[e]
    .simp[e,(om:r<i+1↔r<i)])⟩,om⟩
 .simp only[go_sem,aa,b,c,d,a];rw[x];simp only[go_sem,y];obtain rfl:i=n:=om
  obtain⟨g,u,w⟩:=l;exact oq.vr ⟨g,u,fun r k=>(w r k).trans (by simp[k])⟩
def F3(n m:Nat)(A B:az)(h1:1<=n)(hn:n<=8)(hm:m<=8)(hA:∀i j,i<n->j<n->-262144<A i j/\A i j<262144)(hRd:(∀i j,i<n->j<n->A i j=A j i)/\vu A n)(β:Bool)(hβ:β=true↔Il n m A B):cI 110 [av n n A,av m n B] St.none (yl n m A B β):=by
 refine jg func110 ntmps110 results110 ?_;simp -dsimp only[go_sem,aa];refine(mS n A true h1 hn ⟨fun _=>hRd,fun _=>rfl⟩).call ?_;simp only[go_sem,av];refine cf (fun O S=>∃i:Nat,i<=m/\(∀a k,a<i->k<n->(B a k).natAbs<=1099511627776)/\O 0=av n n A/\O 1=av m n B/\O 19=av m n B/\O 20=ι m/\O 21=ι i/\S=St.none) (fun O S=>m-bO (O 21)) ?_ ?_
 .simp only[go_sem,av];exact⟨0,om,fun a k M=>om,rfl⟩
 rintro Q1 G O S ⟨i,X,H,p,r,s,t,u,rfl⟩;by_cases b:i<m
 .obtain⟨γ,hγ⟩:=oM (∀j,j<n->(B i j).natAbs<=1099511627776);simp -dsimp only[go_sem,aa,p,s,t,u,b,av];refine(Fn n (B i) γ om hγ).call ?_
  cases γ with
  | true =>
   simp only[*,go_sem,av,aF (om:i<1000000),bO]
   refine⟨⟨i+1,om,fun a k M C=>?_,rfl⟩,om⟩
   by_cases e:a=i
   .rw[e];exact hγ.1 rfl k C
   .exact H a k om C
  | false =>
   simp only[go_sem,p,r,s,t,u,av];rw[G];simp only[go_sem];exact aQ ⟨dC hβ fun h=>(by have:=hγ.2 (fun j Y=>h.1 i j b Y);cases this),rfl⟩
 have Z:∀a k,a<m->k<n->(B a k).natAbs<=1099511627776:=fun a k M C=>H a k om C;clear H;simp only[go_sem,aa,p,s,t,u,b];rw[G];simp -dsimp only[go_sem,r,av]
 repeat refine an ?_
 refine ax.intro fun bb fb=>?_
 try simp only[go_sem]
 refine cf (fun O S=>∃i:Nat,i<=m/\O 0=av n n A/\O 1=av m n B/\O 8=ϑ bb 0 m/\O 35=ι m/\O 36=ι i/\GrR S bb m i (fun _ _=>0)) (fun O S=>m-bO (O 36)) ?_ ?_
 .simp only[*,go_sem,av];exact⟨0,om,rfl,fun _=>0,fv.init fb (fun _ _=>rfl) _ _⟩
 clear p r s t u b X G Q1 O i;rintro Q2 I O S ⟨i,X,p,r,N,R,T,g,d⟩;by_cases b:i<m
 .obtain⟨g4,u4,v4⟩:=id d.outer;simp -dsimp only[*,go_sem,aa,av]
  repeat refine an ?_
  refine ax.intro fun bd fd=>?_;have hdc:bb≠bd:=aY.fresh d.outer fd;have hset:aL g4 i (ϑ bd 0 m) i=ϑ bd 0 m:=by simp[aL]
  try simp only[*,go_sem]
  clear I;have hR1:=d.push dc fd u4 (fun _=>ι 0)
  simp only[go_sem,aF (om:i<1000000),bO]
  refine⟨⟨i+1,om,rfl,_,hR1.congr fun a c _ _=>?_⟩,om⟩
  by_cases e:a=i<;>simp[e]
 simp only[go_sem,aa,p,r,N,R,T,b];rw[I];have D:i=m:=om
 rw[D]at d;clear D b X R T I Q2;simp only[go_sem,r,av];refine cf (fun O S=>∃i:Nat,i<=m/\O 0=av n n A/\O 1=av m n B/\O 8=ϑ bb 0 m/\O 46=av m n B/\O 47=ι m/\O 48=ι i/\(∀a c,a<i->c<a+1->(pF n A B a c).natAbs<=4611686018427387904)/\GrR S bb m m (fun a c=>if a<i/\c<i then rt n A B a c else 0)) (fun O S=>m-bO (O 48)) ?_ ?_
 .simp only[*,go_sem,av];exact⟨0,om,rfl,fun a c M=>om,g,d.congr fun a c _ _=>by simp⟩
 clear p r N d;clear O S g i;rintro Q3 v O S ⟨i,X,p,r,N,w,x,y,hP,P⟩;by_cases b:i<m
 .simp -dsimp only[go_sem,aa,p,w,x,y,b,av];refine(DY n A (B i) om hA (fun j Y=>Z i j b Y)).call ?_;simp only[go_sem,p,av];refine cf (fun O S=>∃j:Nat,j<=i+1/\O 0=av n n A/\O 1=av m n B/\O 8=ϑ bb 0 m/\O 10=ι i/\O 12=aK n (fun k=>ap n (fun l=>A k l*B i l))/\O 46=av m n B/\O 47=ι m/\O 48=ι i/\O 57=ι (i+1:Nat)/\O 58=ι j/\(∀c,c<j->(pF n A B i c).natAbs<=4611686018427387904) /\
   GrR S bb m m (fun a c=>if (a<i/\c<i)∨(a=i/\c<j)∨(c=i/\a<j)then rt n A B a c else 0)) (fun O S=>i+1-bO (O 58)) ?_ ?_
  .simp only[*,go_sem,av,aF (om:i<1000000)]
   obtain⟨g,d⟩:=P;exact⟨0,om,rfl,fun c Q=>om,g,d.congr fun a c _ _=>by simp⟩
  clear p r N w x y P;clear O S;rintro Q4 z O S ⟨j,Y,p,r,N,e10,J,w,x,y,U,V,K,P⟩;by_cases L:j<i+1
  .have f:j<m:=om
   simp -dsimp only[go_sem,aa,r,J,U,V,L,f,av];refine(Kh n (B j) _ om (fun k C=>Z j k f C) (fun k C=>by have:=Cv om hA (fun l hl=>Z i l b hl) C (ag n);omega)).call ?_
   have W:ap n (fun k=>B j k*ap n (fun l=>A k l*B i l))=pF n A B i j:=rfl;unfold Mz;by_cases o:(pF n A B i j).natAbs<=4611686018427387904
   case neg =>
    rw[W,ah o,pZ o];simp only[go_sem,r,J,av];rw[z];simp only[go_sem];rw[v];simp only[go_sem];exact aQ ⟨dC hβ fun h=>o (h.2 i j b L),rfl⟩
   rw[W,aj o,nE o];obtain⟨g,d⟩:=P;obtain⟨g4,u4,v4⟩:=id d.outer;obtain⟨g5,u5,v5⟩:=id (d.row i b);obtain⟨g6,u6,v6⟩:=id (d.row j f);have x4:g4 i=ϑ (g i) 0 m:=(v4 i b).trans (aj b);have x5:g4 j=ϑ (g j) 0 m:=(v4 j f).trans (aj f);clear z v;simp -dsimp only[*,go_sem,av];refine fm 13 kr ?_
   by_cases e:j=i
   .subst e;simp only[*,go_sem,aa,av,aF (om:j<1000000),bO]
    have hv:rt n A B j j=pF n A B j j:=aj (ag _);refine⟨⟨j+1,om,rfl,fun c Q=>by
     by_cases q:c=j
     .rw[q];exact o
     .exact K c om,g,((d.put dc f u6 j _).put dc f bW j _).congr fun a c _ _=>?_⟩,om⟩
    dsimp only;by_cases E:a=j/\c=j
    .rw[aj E,aj om];obtain⟨rfl,rfl⟩:=E;exact nF _ hv.symm
    rw[ah E,ah E];by_cases F:(a<j/\c<j)∨(a=j/\c<j)∨(c=j/\a<j)
    .rw[aj F,aj om]
    .rw[ah F,ah om]
   .have nij:g i≠g j:=fun h=>e (d.inj j i f b h.symm);simp only[*,go_sem,aa,av,ai nij,aF (om:j<1000000),bO]
    have hv:rt n A B i j=pF n A B i j:=aj om;have hv2:rt n A B j i=pF n A B i j:=ah om;have u6':(S.upd (g i) ⟨2,1,m,aL g5 j (ι (pF n A B i j))⟩) (g j)=some ⟨2,1,m,g6⟩:=(aE (ai nij)).trans u6;refine⟨⟨j+1,om,rfl,fun c Q=>by
     by_cases q:c=j
     .rw[q];exact o
     .exact K c om,g,((d.put dc b u5 j _).put dc f u6' i _).congr fun a c _ _=>?_⟩,om⟩
    dsimp only;by_cases E:a=j/\c=i
    .rw[aj E,aj om];obtain⟨rfl,rfl⟩:=E;exact nF _ hv2.symm
    rw[ah E];by_cases q2:a=i/\c=j
    .rw[aj q2,aj om];obtain⟨rfl,rfl⟩:=q2;exact nF _ hv.symm
    rw[ah q2];by_cases F:(a<i/\c<i)∨(a=i/\c<j)∨(c=i/\a<j)
    .rw[aj F,aj om]
    .rw[ah F,ah om]
  simp only[go_sem,aa,r,J,U,V,L];rw[z];clear z v;simp only[*,go_sem,av,aF (om:i<1000000),bO]
  obtain⟨g,d⟩:=P;refine⟨⟨i+1,om,rfl,fun a c M Q=>by
   by_cases q:a=i
   .rw[q];exact K c om
   .exact hP a c om Q,g,d.congr fun a c _ _=>?_⟩,om⟩
  dsimp only;by_cases F:(a<i/\c<i)∨(a=i/\c<j)∨(c=i/\a<j)
  .rw[aj F,aj om]
  .rw[ah F,ah om]
 simp only[go_sem,aa,p,w,x,y,b];rw[v];simp only[go_sem,N];obtain rfl:i=m:=om
 obtain⟨g,d⟩:=P;exact a6 ⟨hβ.2 ⟨Z,hP⟩,bb,g,rfl,(d.imat fun a c M Q=>by dsimp only;rw[aj ⟨M,Q⟩]).1⟩

def vg(n:Nat)(W:az)(β:Bool)(c:1<=n)(m:n<=8)(l:∀i j,i<n->j<n->xa (W i j))(hβ:β=true↔det n W=1∨det n W=-1):PF 109 [av n n W] (.bool β):=by
 have a:∀i j,i<n->j<n->nb (W i j) 64:=fun i j d f=>by have:=l i j d f;unfold xa at this;unfold nb;omega
 refine iy func109 ntmps109 results109 ?_;simp -dsimp only[go_sem,aa];refine(pj n n W c om c om (fun i j d f=>by have o:=l i j d f;unfold xa at o;omega)).pf.call ?_
 simp -dsimp only[go_sem,aa,av,(om:¬((8:Int)<(n:Int)))]
 refine(Be n (17*(64+10)) W c om om om (uJ om a)).call ?_;simp -dsimp only[go_sem];refine ax.intro fun bx fx=>?_
 try simp -dsimp only[go_sem]
 by_cases b:gU (det n W)
 .refine(pE b).call ?_;by_cases e:det n W=1
  .rw[e,hβ.2 (a6 e)];simp only[go_sem,cb];exact VR.mf rfl
  by_cases g:det n W=-1
  .rw[g,hβ.2 (aQ g)];simp only[go_sem,cb];exact VR.mf rfl
  rw[dC hβ fun h=>by rcases h with h|h<;>contradiction]
  simp only[go_sem,show(det n W==1)=false by simpa using e,show(det n W==-1)=false by simpa using g]
  exact VR.mf rfl
 .have k:nb (det n W) (17*(64+10)):=(lw n W om a).mono (by have:=aq (64+10) m;omega)
  refine(Mi k om b).call ?_;rw[dC hβ fun h=>by unfold gU at b;rcases h with h|h<;>rw[h]at b<;>omega]
  simp only[go_sem,show((0:Int)==1)=false from rfl,show((0:Int)==-1)=false from rfl];exact VR.mf rfl
def ColR(S:St)(bb n i r:Nat)(W:az):Prop:=∃(g:Nat->Nat) (x:AV),aY S bb 29 1 n (fun a=>if a<i then ϑ (g a) 0 n else if a=i then x else .nil) /\
 (∀a,a<i->oq S (g a) n (fun c=>W c a)/\¬dV x (g a))/\cN 2 1 St.none S x r (fun c=>ι (W c i))/\¬dV x bb
def ColT(S:St)(bb n i:Nat)(W:az):Prop:=∃g:Nat->Nat,aY S bb 29 1 n (fun a=>if a<i then ϑ (g a) 0 n else .nil)/\∀a,a<i->oq S (g a) n (fun c=>W c a)
def PA(n:Nat)(A W:az):Prop:=(det n W=1∨det n W=-1)/\Il n n A (fun i r=>W r i)
def yy(n:Nat)(A W:az)(K:1<=n)(V:n<=8)(hA:∀i j,i<n->j<n->-262144<A i j/\A i j<262144)(M:(∀i j,i<n->j<n->A i j=A j i)/\vu A n)(hW:∀i j,i<n->j<n->xa (W i j))(β:Bool)(hβ:β=true↔PA n A W) :
  cI 50 [av n n A,av n n W] St.none (yl n n A (fun i r=>W r i) β):=by
 have h5:=V;obtain⟨βu,hβu⟩:=oM (det n W=1∨det n W=-1);obtain⟨βg,hβg⟩:=oM (Il n n A (fun i r=>W r i));refine jg func50 ntmps50 results50 ?_;simp -dsimp only[go_sem,aa,av,aR];refine(vg n W βu K om hW hβu).call ?_
 cases βu with
 | false =>
  simp only[go_sem,aR];exact aQ ⟨dC hβ fun h=>(by have:=hβu.2 h.1;cases this),rfl⟩
 | true =>
 have hu:=hβu.1 rfl;simp -dsimp only[go_sem,aR]
 repeat refine an ?_
 refine ax.intro fun bb fb=>?_
 try simp only[go_sem]
 refine cf (fun O S=>∃i:Nat,i<=n/\O 0=av n n A/\O 1=av n n W/\O 6=ϑ bb 0 n/\O 24=ι n/\O 25=ι i/\ColT S bb n i W) (fun O S=>n-bO (O 25)) ?_ ?_
 .simp only[go_sem,av];exact⟨0,om,rfl,fun _=>0,aY.here fun a b=>by simp,fun a b=>om⟩
 rintro Q1 m O S ⟨i,hi,Y,L,N,f,k,t⟩;by_cases l:i<n
 .simp only[go_sem,L,f,k,l,av];refine cf (fun O S=>∃r:Nat,r<=n/\O 0=av n n A/\O 1=av n n W/\O 6=ϑ bb 0 n/\O 7=ι i/\O 24=ι n/\O 25=ι i/\O 28=av n n W/\O 29=ι n/\O 30=ι r/\ColR S bb n i r W) (fun O S=>n-bO (O 30)) ?_ ?_
  .simp only[*,go_sem,av];obtain⟨g,o,v⟩:=t;obtain⟨z,u,w⟩:=o;exact⟨0,om,rfl,g,.nil,⟨z,u,fun a b=>(w a b).trans (by by_cases e:a<i<;>simp[e])⟩,fun a b=>⟨v a b,by rintro⟨_,_,_,e⟩;cases e⟩,cN.nil (fun _ _ h=>by cases h) _,by rintro⟨_,_,_,e⟩;cases e⟩
  clear Y L N f k t;clear O S;rintro Q2 p O S ⟨r,hr,Y,L,N,e7,f,k,B,C,D,g,x,o,v,P,E⟩;by_cases F:r<n
  .obtain⟨g4,Q,Z⟩:=id o;have x4:g4 i=x:=(Z i l).trans sm
   simp -dsimp only[go_sem,B,C,D,F,av,aK];refine fm 11 kr ?_
   simp -dsimp only[go_sem,aa,N,e7,l,Q,x4];clear m p;refine cN.app rfl rfl rfl P om (show dY 1 (ι (W r i))from by simp[dY]) (a6 ⟨_,rfl,rfl⟩) ?_
   intro c S2 R G s;have u5:=G _ _ Q E;simp only[*,go_sem,aa,aF (om:r<1000000),bO]
   have H:c≠bb:=by
    rintro rfl;rcases s with h|h
    .exact E h
    .rw[Q]at h;cases h
   refine⟨⟨r+1,om,rfl,rfl,rfl,rfl,g,ϑ c 0 (r+1),⟨_,bW,fun a b=>?_⟩,fun a b=>?_,?_,fun h=>H (dP.1 h).symm⟩,om⟩
   .by_cases e:a=i
    .simp[aL,e]
    .exact(ah e).trans ((Z a b).trans (by simp[e]))
   .obtain⟨T,r2⟩:=v a b;have U:g a≠bb:=fun h=>by have:=aY.ne T o dc;exact this h
    obtain⟨q,q1,q2⟩:=id T;refine⟨⟨q,(aE U).trans (G _ _ q1 r2),q2⟩,fun y=>?_⟩;rw[dP]at y;rw[<-y]at s;rcases s with h|h
    .exact r2 h
    .exact aY.fresh T h rfl
   .refine(R.keep (x:=ϑ bb 0 0) (fun _ _ h=>by cases h) (fun d X hX hd=>(aE (fun h=>hd (dP.2 h))).trans hX) (fun d K h2=>H ((dP.1 K).symm.trans (dP.1 h2)))).congr fun a b=>?_
    by_cases e:a=r
    .subst e;rw[aj rfl]
    .rw[ah e]
  simp only[go_sem,aa,B,C,D,F];rw[p];clear p;simp only[*,go_sem,av,aF (om:i<1000000),bO]
  have I:r=n:=om
  rw[I]at P;rcases P.2 with⟨h0,_⟩|⟨c,_,rfl,t⟩
  .omega
  refine⟨⟨i+1,om,rfl,fun a=>if a=i then c else g a,?_,fun a b=>?_⟩,om⟩
  .obtain⟨z,u,w⟩:=o;refine⟨z,u,fun a b=>(w a b).trans ?_⟩;by_cases e:a=i
   .simp[e]
   .simp[e,(om:a<i+1↔a<i)]
  .by_cases e:a=i
   .subst e;simp only[aH];exact t
   .simp only[e,aI];exact(v a om).1
 simp only[go_sem,L,f,k,l];rw[m];simp -dsimp only[*,go_sem,aa];clear m;have J:i=n:=om
 rw[J]at t;obtain⟨g,o,v⟩:=t;refine(yl.lift (F3 n n A (fun a c=>W c a) K V om hA M βg hβg) S _ (eM.two (VA.refl _ _) (VR.va (VR.sl (h:=fun a=>aK n (fun c=>W c a)) o om fun a b=>?_)))).mono ?_
 .rw[aM,aj b];exact(v a b).vr
 rintro _ S2 ⟨⟨y,b2,g2,rfl,hN⟩|⟨y,rfl⟩,_⟩
 .simp only[go_sem];exact a6 ⟨hβ.2 ⟨hu,hβg.1 y⟩,b2,g2,rfl,hN⟩
 .simp only[go_sem];exact aQ ⟨dC hβ fun h=>(by have:=hβg.2 h.2;rw[y]at this;cases this),rfl⟩

def SP(n:Nat)(A:az)(a:Nat)(b:1<=n)(c:n<=16)(d:∀i j,i<n->j<n->nb (A i j) a)(e:a<=10000000):PF 165 [aP n n A] (.tup [ϱ (det n A),.bool true]):=by
 refine iy func165 ntmps165 results165 ?_;simp -dsimp only[go_sem];refine ax.intro fun f g=>?_
 try simp -dsimp only[go_sem]
 refine(rX n A b c).call ?_;simp -dsimp only[go_sem,aa];refine(io n A a b c d e).call ?_;simp only[go_sem,aa,aL];exact VR.tup (l:=[ϱ (det n A),.bool true]) (by simp[rm])
def sT(n x:Nat)(s:n<=16)(t:x<n+1):PF 144 [ι ((n+1:Nat):Int),ι x] (aK n (fun i=>(skip x i:Nat))):=by
 refine iy func144 ntmps144 results144 ?_;simp only[go_sem];refine aC (fun O S=>∃(i:Nat) (y:AV),i<=n+1/\O 0=ι ((n+1:Nat):Int)/\O 1=ι x/\O 5=y/\O 6=ι i/\cN 3 1 St.none S y (if i<=x then i else i-1) (fun a=>ι ((skip x a:Nat):Int))) (fun O S=>n+1-bO (O 6)) ?_ ?_
 .simp only[go_sem];exact⟨0,om,rfl,cN.nil (dh.noneS _) _⟩
 .rintro O S ⟨i,y,u,v,w,z,A,b⟩;by_cases m:i<n+1
  .by_cases f:i=x
   .subst f;simp only[*,go_sem,aR,aF (om:i<1000000),bO]
    exact⟨⟨i+1,om,rfl,by rw[ah om,eB];rwa [aj (ag i)]at b⟩,om⟩
   .simp -dsimp only[*,go_sem,show((i:Int) != (x:Int))=true by simp;omega]
    refine ax.intro fun o g=>?_;simp -dsimp only[*,go_sem];have d:=b.fresh g;have j:((skip x (if i<=x then i else i-1):Nat):Int)=i:=by unfold skip;split<;>split<;>omega
    refine cN.app3 (b.upd (by rfl) d _) (by split<;>omega) (show dY 1 (ι (i:Int)) by simp[dY]) (aQ ⟨_,_,_,rfl,bW,rfl,fun h=>d _ h rfl⟩) ?_
    intro c S2 k p q;simp only[*,go_sem,aF (om:i<1000000),bO]
    refine⟨⟨i+1,om,rfl,?_⟩,om⟩
    have e:(if i+1<=x then i+1 else i+1-1)=(if i<=x then i else i-1)+1:=by split<;>split<;>omega
    rw[e];refine k.congr fun a r=>?_;by_cases l:a=(if i<=x then i else i-1)
    .rw[aj l,l,j]
    .rw[ah l]
  .obtain rfl:i=n+1:=om
   rw[ah om,eB]at b;simp only[*,go_sem];exact b.vr fun a r=>VR.mf rfl
def AG(m:Nat)(A:az):az:=fun i j=>mY (i+j)*det m (JZ A j i)
def M2(a:i<m+1)(b:j<m+1):AG m A i j=iq (m+1) A i j:=by
 rw[uT om A b a,Jp m A j i b a,jM j i];rfl
def Pq(f:m+1<=8)(c:∀i j,i<m+1->j<m+1->nb (A i j) k){i j:Nat}(g:i<m+1)(h:j<m+1):nb (det m (JZ A j i)) (8*(k+10)+1) :=
 (lw m (JZ A j i) om fun a b d e=>c _ _ (mb d) (mb e)).mono (by have:=aq (k+10) (om:m<=8);omega)
def BQ(m:Nat)(A:az)(k:Nat)(F:1<=m)(U:m+1<=8)(M:∀i j,i<m+1->j<m+1->nb (A i j) k)(hk:k<=100000):PF 86 [aP (m+1) (m+1) A] (.tup [aP (m+1) (m+1) (iq (m+1) A),.bool true]):=by
 refine iy func86 ntmps86 results86 ?_;simp -dsimp only[go_sem,aa];refine(rX (m+1) A om om).call ?_;simp -dsimp only[go_sem,aa];refine(vf _ (m+1) (m+1) om om).mono ?_;rintro _ S1 ⟨b,g,rfl,d⟩;have d:=d.1;simp only[go_sem];refine cf (fun O S=>∃i:Nat,i<=m+1/\dr S b g (m+1) (m+1) (qT i (fun _ _=>0) (AG m A))/\O 0=aP (m+1) (m+1) A/\O 4=ι ((m+1:Nat):Int)/\O 6=ϑ b 0 (m+1)/\O 21=ι ((m+1:Nat):Int)/\O 22=ι i) (fun O S=>m+1-bO (O 22)) ?_ ?_
 .simp only[go_sem];exact⟨0,om,by rw[ms];exact d,rfl⟩
 clear d;rintro Q1 G O S ⟨i,hi,d,v,w,x,q,r⟩;by_cases f:i<m+1
 .simp only[go_sem,x,q,r,f];refine cf (fun O S=>∃j:Nat,j<=m+1/\dr S b g (m+1) (m+1) (fun a c=>if a=i then(if c<j then AG m A a c else 0)else qT i (fun _ _=>0) (AG m A) a c)/\O 0=aP (m+1) (m+1) A/\O 4=ι ((m+1:Nat):Int)/\O 6=ϑ b 0 (m+1)/\O 7=ι i/\O 21=ι ((m+1:Nat):Int)/\O 22=ι i/\O 26=ι ((m+1:Nat):Int)/\O 27=ι j) (fun O S=>m+1-bO (O 27)) ?_ ?_
  .simp only[*,go_sem];refine⟨0,om,d.congr fun a c _ _=>?_,rfl⟩
   by_cases e:a=i
   .subst e;simp[qT]
   .simp[e]
  clear v w x q r d;clear O S;rintro Q2 H O S ⟨j,hj,d,v,w,x,V,q,r,y,B⟩;by_cases s:j<m+1
  .have W:=Pq U M f s;simp -dsimp only[go_sem,aa,v,w,y,B,s];refine(sT m j om s).call ?_;simp -dsimp only[*,go_sem,aa];refine(sT m i om f).call ?_;simp -dsimp only[*,go_sem,aa];refine(wY (m+1) (m+1) m m A (skip j) (skip i) F om F om (fun a t=>mb t) (fun a t=>mb t)).pf.call ?_;simp -dsimp only[*,go_sem,aa];refine(io m (fun a c=>A (skip j a) (skip i c)) k F om (fun a c t D=>M _ _ (mb t) (mb D)) om).call ?_;have I:det m (fun a c=>A (skip j a) (skip i c))=det m (JZ A j i):=rfl;rw[I];simp -dsimp only[go_sem];refine ax.intro fun N P=>?_
   try simp -dsimp only[go_sem,v,w,V]
   have wij:ω ((i:Int)+(j:Int))=((i+j:Nat):Int):=by rw[<-ef];exact dN om om
   have n:b≠N:=aY.fresh d.outer P;have l:∀a,a<m+1->g a≠N:=fun a t=>aY.fresh (d.row a t) P;have X:et ((i+j:Nat):Int) 2=(((i+j)%2:Nat):Int):=by rw[nL]<;>rfl
   have J:(if (i+j)%2=1 then-det m (JZ A j i)else det m (JZ A j i))=AG m A i j:=by
    unfold AG mY;by_cases e:(i+j)%2=1
    .rw[aj e,ah om,Int.neg_one_mul]
    .rw[ah e,aj om,cU]
   have h:∀z,z=AG m A i j->∀{S':St} {E:Nat->AV},dr S' b g (m+1) (m+1) (fun a c=>if a=i then(if c<j then AG m A a c else 0)else qT i (fun _ _=>0) (AG m A) a c)->S' (g i)=some ⟨50,2,m+1,E⟩->dr (S'.upd (g i) ⟨50,2,m+1,aL E j (ϱ z)⟩) b g (m+1) (m+1) (fun a c=>if a=i then(if c<j+1 then AG m A a c else 0)else qT i (fun _ _=>0) (AG m A) a c):=by
    intro z Y S' E K u;refine(K.set (j:=j) (z:=z) f u).congr fun a c _ _=>?_;simp only[dU];by_cases e:a=i
    .subst e;by_cases Q:c=j
     .subst Q;simp[Y]
     .simp only[Q,Ti,aI,aH];by_cases C:c<j
      .rw[aj C,aj om]
      .rw[ah C,ah om]
    .simp[e]
   rw[<-J]at h;obtain⟨Z,u1,v1⟩:=id d.outer;obtain⟨E,R,v2⟩:=id (d.row i f);have x1:Z i=ϕ (g i) 0 (m+1):=v1 i f;have o:=l i f;by_cases p:(i+j)%2=1
   .have T:((((i+j)%2:Nat):Int)==1)=true:=by simp[p]
    rw[aj p]at h;simp -dsimp only[go_sem,wij,X,T,aL]
    repeat refine an ?_
    refine(tW W om).call ?_;simp -dsimp only[go_sem,aa,aL];refine aN 7 kr ?_
    simp only[*,go_sem,aa,aL,aF (om:j<1000000),bO]
    exact⟨⟨j+1,om,h _ rfl (((d.upd n l _).upd n l _).upd n l _) ((aE o).trans ((aE o).trans ((aE o).trans R))),rfl⟩,om⟩
   .have T:((((i+j)%2:Nat):Int)==1)=false:=by simp;omega
    rw[ah p]at h;simp -dsimp only[*,go_sem]
    repeat refine an ?_
    refine aN 7 kr ?_
    simp only[*,go_sem,aa,aL,aF (om:j<1000000),bO]
    exact⟨⟨j+1,om,h _ rfl ((d.upd n l _).upd n l _) ((aE o).trans ((aE o).trans R)),rfl⟩,om⟩
  .simp only[go_sem,aa,v,w,y,B,s];rw[H];simp only[*,go_sem,aF (om:i<1000000),bO]
   refine⟨⟨i+1,om,d.congr fun a c _ D=>?_,rfl⟩,om⟩
   by_cases e:a=i
   .subst e;simp[qT];omega
   .simp only[e,aI,qT];by_cases C:a<i
    .rw[aj C,aj om]
    .rw[ah C,ah om]
 .have L:i=m+1:=om
  rw[L]at d;simp only[go_sem,x,q,r,f];rw[G];simp only[go_sem,x];exact VR.tup2 ((oC d).congr fun a c t D=>M2 t D).vr (VR.mf rfl)

end Go.Proofs.YtdobfmlmenaajaaGreatDoor
