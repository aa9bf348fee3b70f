/-
  Lemmas for NeighbourVerify.
-/
import Derived.Test.YtdobfmlmenaajaaGreatDoorV10
namespace Go.Proofs.YtdobfmlmenaajaaGreatDoor
open Go.RowKit Tryz
open _root_.Classical renaming choose→dM
open _root_.List renaming replicate→bZ,getD→cS,range→et
open Tryz renaming prog→ai
set_option maxHeartbeats 6400000
set_option maxRecDepth 4096
set_option linter.all false
variable{a na p xc xj:Int}{l ps:List Nat}{K K' N R U V X b c car g i j k m n r s u0 u1 u2 ul v0 v1 vl x x0 y0:Nat}{f:Nat->Int}{q q' r' u v xs y σ:Nat->Nat}{A A0 A1 B H w:aH}
def kK(A:aH)(i j:Nat)(q:Int):aH:=fun r c=>if c=i then A r i-q*A r j else A r c
def mU(A:aH)(i:Nat):aH:=fun r c=>if c=i then-A r i else A r c
def Ca(A:aH)(i j:Nat):aH:=fun r c=>A r (dX i j c)
def qM(n m:Nat)(A B:aH):Prop:=∀x,fC n m A x↔fC n m B x
def qM.refl(n m:Nat)(A:aH):qM n m A A:=fun _=>Iff.rfl
def qM.trans{C:aH}(h:qM n m A B)(k:qM n m B C):qM n m A C:=fun x=>(h x).trans (k x)
def qM.of(a:∀j,j<m->fC n m A (fun i=>B i j))(b:∀j,j<m->fC n m B (fun i=>A i j)):qM n m A B :=
 fun _=>⟨fC.sub (fC.lat n m B) b,fC.sub (fC.lat n m A) a⟩
def FC(A:aH){i k:Nat}(d:i<m)(c:k<m)(b:i≠k)(q:Int):qM n m A (kK A i k q):=by
 refine qM.of (fun j a=>?_) (fun j a=>?_)
 .by_cases e:j=i
  .subst e;exact(fC.lat n m A).ext _ _ ((fC.lat n m A).comb _ _ (fC.col a) (fC.col c) 1 (-q)) (fun r _=>by simp only[kK,aK];grind)
  .exact(fC.lat n m A).ext _ _ (fC.col a) (fun r _=>by simp[kK,e])
 .by_cases e:j=i
  .subst e;refine(fC.lat n m _).ext _ _ ((fC.lat n m _).comb _ _ (fC.col (j:=j) a) (fC.col (j:=k) c) 1 q) (fun r _=>?_);simp only[kK,aK,af (aj b)];grind
  .exact(fC.lat n m _).ext _ _ (fC.col (j:=j) a) (fun r _=>by simp[kK,e])
def P9(A:aH){i k:Nat}(d:i<m)(e:k<m):qM n m A (Ca A i k):=by
 have c:∀j,j<m->dX i k j<m:=fun j a=>by unfold dX;split<;>(try split)<;>omega
 have b:∀j,dX i k (dX i k j)=j:=fun j=>by unfold dX;grind
 refine qM.of (fun j a=>fC.col (c j a)) (fun j a=>?_);have:=fC.col (n:=n) (B:=Ca A i k) (c j a);simpa only[Ca,b]using this
def NC(A:aH){i:Nat}(b:i<m):qM n m A (mU A i):=by
 refine qM.of (fun j a=>?_) (fun j a=>?_)
 .by_cases e:j=i
  .subst e;exact(fC.lat n m A).ext _ _ ((fC.lat n m A).smul (fC.col a) (-1)) (fun r _=>by simp[mU])
  .exact(fC.lat n m A).ext _ _ (fC.col a) (fun r _=>by simp[mU,e])
 .by_cases e:j=i
  .subst e;exact(fC.lat n m _).ext _ _ ((fC.lat n m _).smul (fC.col (j:=j) a) (-1)) (fun r _=>by simp[mU])
  .exact(fC.lat n m _).ext _ _ (fC.col (j:=j) a) (fun r _=>by simp[mU,e])
def rP(x q y:Int):(x-q*y).natAbs<=x.natAbs+q.natAbs*y.natAbs:=by
 rw[<-cH];omega
def N0{s q r:Int}(b:q.natAbs*s.natAbs<=a.natAbs+r.natAbs):xj.natAbs*r.natAbs+(xc-q*xj).natAbs*s.natAbs<=xc.natAbs*s.natAbs+xj.natAbs*a.natAbs+2*(xj.natAbs*r.natAbs):=by
 have c:=aD s.natAbs (rP xc q xj);have d:=aL xj.natAbs b;rw[dV]at c;rw[cj]at d;have e:q.natAbs*xj.natAbs*s.natAbs=xj.natAbs*(q.natAbs*s.natAbs):=by rw[aA q.natAbs,bB]
 omega
def QJ{s q r:Int}(b:q.natAbs*s.natAbs+r.natAbs<=a.natAbs):xj.natAbs*r.natAbs+(xc-q*xj).natAbs*s.natAbs<=xc.natAbs*s.natAbs+xj.natAbs*a.natAbs:=by
 have c:=aD s.natAbs (rP xc q xj);have d:=aL xj.natAbs b;rw[dV]at c;rw[cj]at d;have e:q.natAbs*xj.natAbs*s.natAbs=xj.natAbs*(q.natAbs*s.natAbs):=by rw[aA q.natAbs,bB]
 omega
def Ty{s:Int}(b:s≠0):0<=a-a/s*s/\(a-a/s*s).natAbs<s.natAbs/\(a/s).natAbs*s.natAbs<=a.natAbs+(a-a/s*s).natAbs:=by
 have e:=aT a b;have f:=UY a b;have c:=eB a s;rw[ck s]at c;have d:(a/s).natAbs*s.natAbs=(a/s*s).natAbs:=(cH ..).symm;rw[d];generalize a/s*s=z at *;omega
def QK{s:Int}(d:0<a)(e:0<s):(a/s).natAbs*s.natAbs+(a-a/s*s).natAbs<=a.natAbs:=by
 have f:=aT a (om:s≠0)
 have b:=eB a s;rw[ck s]at b;have c:(a/s).natAbs*s.natAbs=(a/s*s).natAbs:=(cH ..).symm;have g:0<=a/s*s:=dr (nd om om) om;rw[c];generalize a/s*s=z at *;omega
def UZ(N X row c j:Nat)(A:aH):Prop :=
 (∀r,r<N->(A r c).natAbs<=X/\(A r j).natAbs<=X) ∨
 (0<=A row j/\(A row j).natAbs<(A row c).natAbs/\(∀r,r<N->(A r c).natAbs<=12*(X*X)) /\
  ((∀r,r<N->(A r c).natAbs*(A row j).natAbs+(A r j).natAbs*(A row c).natAbs<=4*(X*X)) ∨
    (0<A row c/\∀r,r<N->(A r c).natAbs*(A row j).natAbs+(A r j).natAbs*(A row c).natAbs<=12*(X*X))))
def Mg(A:aH)(row c j:Nat):aH:=Ca (kK A c j (A row c/A row j)) c j
def Sa{row:Nat}(h:c≠j):Mg A row c j r c=A r j:=by
 simp[Mg,Ca,kK,dX,aj h]
def N1{row:Nat}(h:c≠j):Mg A row c j r j=A r c-A row c/A row j*A r j:=by
 simp[Mg,Ca,kK,dX,aj h]
def JX{row:Nat}(a:k≠c)(b:k≠j):Mg A row c j r k=A r k:=by
 simp[Mg,Ca,kK,dX,a,b]
def xM(X:Nat):X<=X*X:=by
 rcases bn X with h|h
 .subst h;omega
 .exact Rw X h
def UZ.bd{row:Nat}(h:UZ N X row c j A){r:Nat}(b:r<N):(A r c).natAbs<=12*(X*X)/\(A r j).natAbs<=12*(X*X):=by
 have e:=xM X;rcases h with h|⟨f,g,d,a⟩
 .have:=h r b;omega
 .refine⟨d r b,?_⟩;have i:=aL (A r j).natAbs (om:1<=(A row c).natAbs)
  rcases a with a|⟨_,a⟩
  .have:=a r b;omega
  .have:=a r b;omega
def UZ.step{row:Nat}(h:UZ N X row c j A)(b:c≠j)(e:row<N)(m:A row j≠0):UZ N X row c j (Mg A row c j)/\(Mg A row c j row j).natAbs<(A row j).natAbs:=by
 obtain⟨n,g,i⟩:=Ty (a:=A row c) m;refine⟨bQ ?_,by rw[N1 b];exact g⟩
 simp only[Sa b,N1 b];refine⟨n,g,fun r d=>(h.bd d).2,?_⟩;rcases h with h|⟨v,w,x,f⟩
 .refine bW fun r d=>?_;obtain⟨o,k⟩:=h r d;obtain⟨q,s⟩:=h row e;have p:=N0 (xc:=A r c) (xj:=A r j) i;have l:=aV o s;have y:=aV k q;have t:=aV k (show(A row c-A row c/A row j*A row j).natAbs<=X by omega)
  omega
 .rcases f with f|⟨u,f⟩
  .refine bQ ⟨om,fun r d=>?_⟩
   have p:=N0 (xc:=A r c) (xj:=A r j) i;have l:=f r d;have t:=aL (A r j).natAbs (show(A row c-A row c/A row j*A row j).natAbs<=(A row c).natAbs by omega)
   omega
  .refine bQ ⟨om,fun r d=>?_⟩
   have p:=QJ (xc:=A r c) (xj:=A r j) (QK u (om:0<A row j))
   have l:=f r d;omega
def kk(k:Nat):Nat->Nat
 | 0=>k
 | m+1=>2*kk k m+4
theorem RV(k:Nat):∀m d,kk k m<=kk k (m+d)
 | m,0=>ae _
 | m,d+1=>by have:=RV k m d;show _<=2*kk k (m+d)+4;omega
def qt{m':Nat}(h:m<=m'):kk k m<=kk k m':=by
 obtain⟨d,rfl⟩:∃d,m'=m+d:=⟨m'-m,om⟩
 exact RV k m d
theorem Ia(k a:Nat):∀b,kk (kk k a) b=kk k (a+b)
 | 0=>rfl
 | b+1=>by show 2*kk (kk k a) b+4=2*kk k (a+b)+4;rw[Ia k a b]
theorem RW(k:Nat):∀m,kk k m+4=(k+4)*2^m
 | 0=>by simp[kk]
 | m+1=>by have:=RW k m;simp only[kk];rw[cf,<-bB];omega
def p12(k:Nat):12*(2^k*2^k)<=2^(2*k+4):=by
 rw[<-fR,(om:2*k+4=k+k+4),fR 2 (k+k) 4]
 omega
def sc{a:Nat}(h:a<=b):2^a<=2^b:=cu om h
structure Mm(n m row c j:Nat)(A0 A:aH):Prop where
 lat:qM n m A0 A
 left:∀r k,k<c->A r k=A0 r k
 low:∀r k,r<row->c<=k->k<m->A r k=0
 done:∀k,c<k->k<j->A row k=0
def Bd(N m K:Nat)(A:aH):Prop:=∀r k,r<N->k<m->(A r k).natAbs<=2^K
structure RB(n m N K row c j:Nat)(A0 A:aH):Prop where
 ga:Mm n m row c j A0 A
 oth:∀r k,r<N->k<m->k≠c->k≠j->(A r k).natAbs<=2^K
 eu:UZ N (2^K) row c j A
def Mm.eu{row:Nat}(h:Mm n m row c j A0 A)(b:Bd N m K A)(d:c<m)(e:j<m):RB n m N K row c j A0 A :=
 ⟨h,fun r k a f _ _=>b r k a f,bW fun r a=>⟨b r c a d,b r j a e⟩⟩
def RB.step{row:Nat}(h:RB n m N K row c j A0 A)(p:c<j)(g:j<m)(a:row<N)(q:A row j≠0):RB n m N K row c j A0 (Mg A row c j)/\(Mg A row c j row j).natAbs<(A row j).natAbs:=by
 obtain⟨s,t⟩:=h.eu.step om a q;refine⟨⟨⟨h.ga.lat.trans ((FC A om g om _).trans (P9 _ om g)),fun r k b=>?_,fun r k d b i=>?_,fun k e f=>?_⟩,fun r k d b e f=>?_,s⟩,t⟩
 .rw[JX om om];exact h.ga.left r k b
 .have u:=h.ga.low r c d om om;have z2:=h.ga.low r j d om g;by_cases l:k=c
  .subst l;rw[Sa om];exact z2
  .by_cases o:k=j
   .subst o;rw[N1 om,u,z2];simp
   .rw[JX l o];exact h.ga.low r k d b i
 .rw[JX om om];exact h.ga.done k e f
 .rw[JX e f];exact h.oth r k d b e f
def RB.bd{row:Nat}(h:RB n m N K row c j A0 A):Bd N m (2*K+4) A:=fun r k a f=>by
 have e:=p12 K;have g:=sc (om:K<=2*K+4)
 have i:=h.eu.bd a;by_cases b:k=c
 .subst b;omega
 .by_cases d:k=j
  .subst d;omega
  .have:=h.oth r k a f b d;omega
def RB.fin{row:Nat}(h:RB n m N K row c j A0 A)(a:A row j=0):Mm n m row c (j+1) A0 A/\Bd N m (2*K+4) A :=
 ⟨⟨h.ga.lat,h.ga.left,h.ga.low,fun k b d=>by
  by_cases e:k=j
  .subst e;exact a
  .exact h.ga.done k b om⟩,h.bd⟩
def Mm.neg{row:Nat}(h:Mm n m row c j A0 A)(e:Bd N m K A)(f:c<m):Mm n m row c j A0 (mU A c)/\Bd N m K (mU A c):=by
 refine⟨⟨h.lat.trans (NC A f),fun r k a=>?_,fun r k b a d=>?_,fun k g i=>?_⟩,fun r k b a=>?_⟩
 .simp only[mU];rw[af om];exact h.left r k a
 .simp only[mU];have l:=h.low r c b om om;split
  .omega
  .exact h.low r k b a d
 .simp only[mU];rw[af om];exact h.done k g i
 .simp only[mU];have l:=e r c b f;split
  .omega
  .exact e r k b a
def G7(d:wU m i A)(f:i<=m){x c:ig}(g:∀r,r<i->x r=aq m (fun j=>A r j*c j))(h:∀r,r<i->x r=0):∀j,j<i->c j=0:=by
 intro j
 induction j using Nat.strongRecOn with
 | _ j ih =>
  intro b;have e:=g j b;rw[h j b,cJ j om (fun k l n=>by
   rcases aF k j with a|a
   .rw[ih k a om];simp
   .rw[(d j b).1 k om l];simp)]at e
  rcases fZ.1 e.symm with a|a
  .have:=(d j b).2;omega
  .exact a
structure Kp(n m N K i:Nat)(A0 A:aH):Prop where
 lat:qM n m A0 A
 tri:wU m i A
 red:∀r j,r<i->j<r->0<=A r j/\A r j<A r r
 bd:Bd N m (kk K (m*i)) A
def Kp.ga(h:Kp n m N K i A0 A):Mm n m i i (i+1) A A :=
 ⟨qM.refl n m A,fun _ _ _=>rfl,fun r k b c a=>(h.tri r b).1 k om a,fun k d e=>om⟩
def Kp.piv(h:Kp n m N K i A0 A)(d:Mm n m i i m A A1)(p:i<n)(q:n<=m)(s:∃M,M≠0/\fC n m A0 (gR M i))(z:0<=A1 i i):wU m (i+1) A1/\∀r j,r<i->j<r->0<=A1 r j/\A1 r j<A1 r r:=by
 have l:wU m i A1:=fun r a=>⟨fun j f b=>by
   rcases aF j i with g|g
   .rw[d.left r j g];exact(h.tri r a).1 j f b
   .exact d.low r j a g b,by rw[d.left r r a];exact(h.tri r a).2⟩
 have t:A1 i i≠0:=fun e=>by
  obtain⟨M,u,v⟩:=s;obtain⟨c,o⟩:=(h.lat.trans d.lat _).1 v;have w:=G7 l om (fun r a=>o r om) (fun r a=>by simp only[gR];rw[af om])
  have f:=o i p;rw[iP fun k x=>by
   rcases dS k i with b|b|b
   .rw[w k b];simp
   .rw[b,e];simp
   .rw[d.done k b x];simp]at f
  simp only[gR,aK]at f;exact u f
 refine⟨fun r a=>?_,fun r j a y=>?_⟩
 .by_cases e:r=i
  .subst e;exact⟨fun j f b=>d.done j f b,om⟩
  .exact l r om
 .rw[d.left r j om,d.left r r a];exact h.red r j a y
structure Rt(n m N K i s:Nat)(A0 A:aH):Prop where
 lat:qM n m A0 A
 tri:wU m (i+1) A
 red:∀r j,r<i->j<r->0<=A r j/\A r j<A r r
 now:∀j,j<s->0<=A i j/\A i j<A i i
 bd:∀r k,r<N->k<m->(A r k).natAbs<=if k<s then 2^(2*K+4)else 2^K
def Rt.step(h:Rt n m N K i s A0 A)(w:s<i)(b:i<m)(l:i<N):Rt n m N K i (s+1) A0 (kK A s i (A i s/A i i)):=by
 have o:=(h.tri i om).2;have z:∀r,r<i->A r i=0:=fun r a=>(h.tri r om).1 i a b;have keep:∀r k,r<i->kK A s i (A i s/A i i) r k=A r k:=fun r k a=>by
  simp only[kK];split
  .rename_i e;rw[z r a,e];simp
  .rfl
 have oth:∀r k,k≠s->kK A s i (A i s/A i i) r k=A r k:=fun r k f=>by simp[kK,f]
 refine⟨h.lat.trans (FC A om b om _),fun r a=>?_,fun r j a p=>?_,fun j p=>?_,fun r k a f=>?_⟩
 .by_cases e:r=i
  .subst e;exact⟨fun j g c=>by rw[oth r j om];exact(h.tri r om).1 j g c,by rw[oth r r om];exact o⟩
  .refine⟨fun j g c=>?_,?_⟩
   .rw[keep r j om];exact(h.tri r a).1 j g c
   .rw[keep r r om];exact(h.tri r a).2
 .rw[keep r j a,keep r r a];exact h.red r j a p
 .rw[oth i i om];by_cases e:j=s
  .subst e;simp only[kK,aK];have g:=aT (A i j) (om:A i i≠0)
   have c:=aP (A i j) o;have q:=eB (A i j) (A i i);rw[ck (A i i)]at q;omega
  .rw[oth i j e];exact h.now j om
 .by_cases e:k=s
  .subst e;rw[ah om];simp only[kK,aK];have d:=h.bd r k a f;have t:=h.bd r i a b;have u:=h.bd i k l f;rw[af om]at d t u;have g:=rP (A r k) (A i k/A i i) (A r i);have c:=jL (A i k) (A i i);have q:=aV (a9 c u) t;have x:=p12 K;have y:=xM (2^K);omega
  .rw[oth r k e];have d:=h.bd r k a f;by_cases v:k<s
   .rw[ah v]at d;rw[ah om];exact d
   .rw[af v]at d;rw[af om];exact d
def Kp.re(h:Kp n m N K i A0 A)(b:Mm n m i i m A A1)(c:Bd N m K' A1)(d:i<n)(a:n<=m)(e:∃M,M≠0/\fC n m A0 (gR M i))(f:0<=A1 i i):Rt n m N K' i 0 A0 A1:=by
 obtain⟨g,l⟩:=h.piv b d a e f;exact⟨h.lat.trans b.lat,g,l,fun j q=>om,fun r k o p=>by rw[af om];exact c r k o p⟩
def Rt.fin(h:Rt n m N K' i i A0 A)(c:2*K'+4<=kk K (m*(i+1))):Kp n m N K (i+1) A0 A:=by
 refine⟨h.lat,h.tri,fun r j a b=>?_,fun r k a d=>?_⟩
 .by_cases e:r=i
  .subst e;exact h.now j b
  .exact h.red r j om b
 .have f:=h.bd r k a d;have g:=sc c;have l:=sc (om:K'<=2*K'+4)
  split at f<;>omega
def Kp.init(a:Bd N m K A):Kp n m N K 0 A A :=
 ⟨qM.refl n m A,fun r b=>om,fun r j b _=>om,by rw[d7];exact a⟩
def Kp.cut(h:Kp n (n+1) N K n A0 A)(y:ig):fC n n A y↔fC n (n+1) A0 y:=by
 refine Iff.trans ?_ (h.lat y).symm;have z:∀r,r<n->A r n=0:=fun r d=>(h.tri r d).1 n d om;constructor
 .rintro⟨c,b⟩;exact⟨c,fun i a=>by rw[b i a];simp only[aq];rw[z i a];omega⟩
 .rintro⟨c,b⟩;exact⟨c,fun i a=>by rw[b i a];simp only[aq];rw[z i a];omega⟩

def Dh(l:k<n)(b:∀j,j<=k->det j A≠0)(c:∀j,j<n-k->cX A k 0 j=0):det n A=0:=by
 have a:=rX b (n-k-1) id id;have d:det (n-k-1+1) (fun i j=>cX A k (id i) (id j))=0:=FY _ (fun j m=>c j om);rw[d,(om:k+(n-k-1)+1=n)]at a
 have f:det k A^(n-k-1)≠0:=Kl (b k (ae _));have g:det n (fun i j=>A (up k id i) (up k id j))=det n A:=bI fun i j _ _=>by
  have e:∀i,up k id i=i:=fun i=>by unfold up;split<;>simp;omega
  rw[e,e]
 rw[g]at a;rcases fZ.1 a.symm with h|h
 .exact absurd h f
 .exact h
def SU{p:Nat}(d:k<=p)(i a:Nat):dX k p (up k (fun _=>i) a)=up k (fun _=>dX 0 (p-k) i) a:=by
 unfold up dX;by_cases h:a<k
 .simp only[h,aK];rw[af om,af om]
 .simp only[h,aM];by_cases b:i=0
  .rw[ah om,ah b];omega
  .by_cases c:i=p-k
   .rw[af om,ah om,af b,ah c];omega
   .rw[af om,af om,af b,af c]
def Fe{p:Nat}(A:aH)(c:k<=p)(i j:Nat):cX (fun a b=>A a (dX k p b)) k i j=cX A k i (dX 0 (p-k) j):=by
 unfold cX;refine bI fun a b d e=>?_;show A _ (dX k p (up k (fun _=>j) b))=_;rw[SU c]
def mZ{g:Nat->Int}(h:∀i,i<n->f i=g i):dN n f=dN n g:=by
 induction n with
 | zero=>rfl
 | succ n ih=>simp only[dN];rw[ih (fun i a=>h i om),h n om]
def Oz(f:Nat->Int)(h:n<=m):dN n f<=dN m f:=by
 induction m with
 | zero=>rw[(om:n=0)];exact ae _
 | succ m ih =>
  rcases aF n (m+1)with a|a
  .have:=ih om;simp only[dN];omega
  .rw[(om:n=m+1)];exact ae _
def jR(f:Nat->Int){j:Nat}(a:j<n):dN n (fun b=>if b=j then 0 else f b)+(f j).natAbs=dN n f:=by
 induction n with
 | zero=>omega
 | succ n ih =>
  simp only[dN];rcases aF j n with h|h
  .have:=ih h;rw[af (om:¬n=j)];omega
  .rw[(om:j=n),ah rfl,mZ (g:=f) (fun i c=>af om)];simp
def LQ(f:Nat->Int){i k:Nat}(a:i<n)(c:k<n):dN n (fun b=>f (dX i k b))=dN n f:=by
 by_cases e:i=k
 .subst e;exact mZ fun b _=>by unfold dX;split<;>simp_all
 .have p:=jR f a;have j:=jR (fun b=>if b=i then 0 else f b) c
  have l:=jR (fun b=>f (dX i k b)) a;have d:=jR (fun b=>if b=i then 0 else f (dX i k b)) c
  simp only[af (aj e)]at j d;have q:dN n (fun b=>if b=k then 0 else if b=i then 0 else f (dX i k b))=dN n (fun b=>if b=k then 0 else if b=i then 0 else f b):=mZ fun b _=>by
   by_cases g:b=k
   .simp[g]
   .by_cases h:b=i
    .simp[h]
    .simp[g,h,dX]
  have m:dX i k i=k:=by simp[dX]
  have o:dX i k k=i:=by simp[dX]
  rw[m]at l;rw[o]at d;omega
def Gh(g:Nat->Int)(h:k+j<N):dN (k+1) (fun b=>g (up k (fun _=>j) b))<=dN N g:=by
 have d:=jR g h;have a:dN k (fun b=>g (up k (fun _=>j) b))=dN k (fun b=>if b=k+j then 0 else g b):=mZ fun b c=>by
  simp only[up,c,aK];rw[af om]
 have e:=Oz (fun b=>if b=k+j then 0 else g b) (om:k<=N)
 simp only[dN];rw[a,show up k (fun _=>j) k=k+j by simp[up]]
 omega
structure mh(A:aH)(N:Nat)(σ:Nat->Nat)(k:Nat):Prop where
 lead:∀j,j<=k->det j (fun a b=>A a (σ b))≠0
 abs:∀B:aH,(det N (fun a b=>B a (σ b))).natAbs=(det N B).natAbs
 sum:∀f:Nat->Int,dN N (fun b=>f (σ b))=dN N f
def mh.init(A:aH)(N:Nat):mh A N id 0:=⟨fun j a=>by rw[(om:j=0)];simp[det],fun _=>rfl,fun _=>rfl⟩
def mh.swap{p:Nat}(h:mh A N σ k)(g:k<=p)(c:p<N):mh A N (fun a=>σ (dX k p a)) k:=by
 refine⟨fun j d=>?_,fun B=>?_,fun f=>?_⟩
 .have e:det j (fun a b=>A a (σ (dX k p b)))=det j (fun a b=>A a (σ b)):=bI fun a b _ i=>by rw[show dX k p b=b by unfold dX;rw[af om,af om]]
  rw[e];exact h.lead j d
 .by_cases e:k=p
  .subst e;rw[show(fun a b=>B a (σ (dX k k b)))=fun a b=>B a (σ b) by funext a b;rw[show dX k k b=b by unfold dX;split<;>simp_all]]
   exact h.abs B
  .have:=oK (fun a b=>B a (σ b)) (om:k<N) c e
   rw[this,Mk];exact h.abs B
 .rw[LQ (fun b=>f (σ b)) (om:k<N) c];exact h.sum f
def mh.step(h:mh A N σ k)(c:cX (fun a b=>A a (σ b)) k 0 0≠0):mh A N σ (k+1) :=
 ⟨fun j e=>by
  rcases aF j (k+1)with d|d
  .exact h.lead j om
  .rw[(om:j=k+1),<-dd];exact c,h.abs,h.sum⟩
def t9(n R i:Nat):Nat:=if i<n then i else R
def SX{a:Nat}(b:n<=R):up n (fun _=>R-n) a=t9 n R a:=by simp only[up,t9];split<;>omega
def PM(c:n<=R):cX A n (R-n) 0=det (n+1) (fun a b=>A (t9 n R a) b):=by
 unfold cX;refine bI fun a b _ d=>?_;rw[SX c,pC _ _ d]
def mh.found(h:mh A (n+1) σ k)(o:k<n)(f:det (n+1) (fun a b=>A (t9 n R a) b)≠0):¬∀j,j<n+1-k->cX (fun a b=>A a (σ b)) k 0 j=0:=by
 intro g;have e:∀m,m<=n->∀B:aH,det m (fun a b=>B (t9 n R a) b)=det m B:=fun m p B=>bI fun a b d _=>by rw[show t9 n R a=a by unfold t9;rw[ah om]]
 have i:=Dh (A:=fun a b=>A (t9 n R a) (σ b)) (om:k<n+1) (fun j c=>by rw[e j om (fun a b=>A a (σ b))];exact h.lead j c) (fun j c=>by
  rw[<-g j c];unfold cX;refine bI fun a b d _=>?_;rw[pC _ _ d];simp only[t9];rw[ah (om:a<n)])
 have l:=h.abs (fun a b=>A (t9 n R a) b);rw[i]at l;exact f om
def mh.last(h:mh A (n+1) σ k)(c:n<=R):(cX (fun a b=>A a (σ b)) n (R-n) 0).natAbs=(det (n+1) (fun a b=>A (t9 n R a) b)).natAbs:=by
 rw[PM (A:=fun a b=>A a (σ b)) c];exact h.abs (fun a b=>A (t9 n R a) b)
theorem N9:∀(n:Nat) (A:aH),(∀i j,i<n->j<n->A i j=if j=i then 1 else 0)->det n A=1
 | 0,_,_=>rfl
 | n+1,A,h=>by
  rw[sh A (fun i a=>by rw[h _ _ om om,af om]),h 0 0 om om,N9 n _ (fun i j a b=>by
   rw[h _ _ om om];by_cases e:j=i
   .simp[e]
   .rw[af e,af om])]
  simp
def BB(A:aH)(h:∀i,i<n->∀c:Nat->Int,(∀r,r<n->aq n (fun j=>(if r<i then du r j else A r j)*c j)=0)->c i=0):det n A≠0:=by
 have key:∀m i,i+m=n->det n (fun r j=>if r<i then du r j else A r j)≠0:=by
  intro m
  induction m with
  | zero =>
   intro i f;rw[N9 n _ (fun a b p q=>by rw[ah om];rfl)];decide
  | succ m ih =>
   intro i f g;have k:=ih (i+1) om;refine k ?_;have l:=h i om (fun j=>qa n (fun r j=>if r<i then du r j else A r j) i j) (fun r o=>by
    refine(uB (fun r j=>if r<i then du r j else A r j) (om:i<n) o).trans ?_
    rw[g];simp)
   rw[<-l];unfold qa;refine bI fun a b _ _=>?_;unfold setRow;by_cases e:a=i
   .simp[e]
   .by_cases d:a<i
    .simp[e,d,(om:a<i+1)]
    .simp[e,d,(om:¬a<i+1)]
 have:=key n 0 om;simpa using this

def fq(n:Nat)(M:aH):aH:=fun r j=>if r<n then M r j else if r=n+j then 1 else 0
def E9(c:Nat->Int){r:Nat}(a:r<n):aq n (fun j=>du r j*c j)=c r:=by
 rw[cJ r a (fun i _ b=>by simp[du,b])];simp[du]
def Fy(v:p≠0){piv:Nat}(f:piv<n)(q x:Nat->Int):det (n+1) (fun a b=>fq n (tB n p piv q x) (t9 n (n+n) a) b)≠0:=by
 refine BB _ fun i w c s=>?_;have rowU:∀r,r<n+1->r<i->c r=0:=fun r l m=>by
  have:=s r l;rw[aB (g:=fun j=>du r j*c j) (fun j _=>by rw[ah m]),E9 c l]at this
  exact this
 have o:c n=0:=by
  by_cases h:n<i
  .exact rowU n om h
  .have:=s n om;rw[aB (g:=fun j=>du n j*c j) (fun j _=>by
    rw[af h];simp only[t9,fq,du];by_cases e:j=n
    .simp[e,(om:¬n+n<n)]
    .simp[e,(om:¬n+n<n),aj e]),E9 c om]at this
   exact this
 have rowM:∀r,r<n->¬r<i->aq n (fun j=>gU p piv q r j*c j)=0:=fun r l m=>by
  have:=s r om;rw[aB (g:=fun j=>tB n p piv q x r j*c j) (fun j _=>by rw[af m];simp[t9,fq,l]),Dy,o]at this
  omega
 have k:∀r,r<n->r≠piv->c r=0:=fun r l d=>by
  by_cases h:r<i
  .exact rowU r om h
  .have:=rowM r l h;rw[cJ r l (fun j _ t=>by
    simp only[gU];by_cases e:j=piv
    .simp[e,d]
    .simp[e,d,aj t])]at this
   simp[gU,d]at this;rcases fZ.1 this with h|h
   .exact absurd h v
   .exact h
 have u:c piv=0:=by
  by_cases h:piv<i
  .exact rowU piv om h
  .have:=rowM piv f h;rw[cJ piv f (fun j t d=>by rw[k j t d];simp)]at this
   simp[gU]at this;rcases fZ.1 this with h|h
   .rcases fZ.1 h with h|h<;>exact absurd h v
   .exact h
 rcases aF i n with h|h
 .by_cases e:i=piv
  .rw[e];exact u
  .exact k i h e
 .rw[(om:i=n)];exact o
def Dq(n piv r:Nat):Nat:=if r<n then(if r=piv then 1665 else 33)else 1
def wS(a:k<n)(h:∀i,i<n->i≠k->f i=0):dN n f=(f k).natAbs:=by
 have c:=jR f a;have d:dN n (fun b=>if b=k then 0 else f b)=0:=by
  have:∀m,m<=n->dN m (fun b=>if b=k then 0 else f b)=0:=by
   intro m
   induction m with
   | zero=>intro _;rfl
   | succ m ih =>
    intro g;simp only[dN];rw[ih om];by_cases e:m=k
    .simp[e]
    .simp[e,h m om e]
  exact this n (ae _)
 omega
def mB{B:Nat}(h:∀i,i<n->(f i).natAbs<=B):dN n f<=n*B:=by
 induction n with
 | zero=>simp[dN]
 | succ n ih=>have:=ih (fun i a=>h i om);have:=h n om;simp only[dN];rw[dl];omega
def Th{piv:Nat}{q x:Nat->Int}(D:n<=5)(E:0<p)(o:p<=17)(d:piv<n)(s:∀j,j<n->0<=q j/\q j<=16)(t:∀i,i<n->i≠piv->(x i).natAbs<=16)(u:(x piv).natAbs<=288)(r:Nat) :
  dN (n+1) (fq n (tB n p piv q x) r)<=Dq n piv r:=by
 unfold Dq;split
 .rename_i a;have v:dN (n+1) (fq n (tB n p piv q x) r)=dN n (gU p piv q r)+(x r).natAbs:=by
   simp only[dN];rw[mZ (g:=gU p piv q r) (fun j c=>by simp[fq,a,tB,c])]
   simp[fq,a,tB]
  rw[v];split
  .rename_i e;subst e;have F:=jR (gU p r q r) a;have G:dN n (fun b=>if b=r then 0 else gU p r q r b)<=4*272:=by
    have w:∀b,b<n->(if b=r then 0 else gU p r q r b).natAbs<=272:=fun b y=>by
     by_cases e:b=r
     .simp[e]
     .have z:=s b y;simp only[nn e,aM,gU,aK];have:(p*q b).natAbs<=17*16:=by rw[cH];exact aV om om
      omega
    have H:=jR (fun b=>if b=r then 0 else gU p r q r b) a
    have l:=AN (n:=n-1) (fun b=>if b=r then 0 else gU p r q r b) (j:=r) om
    have A:=mB (n:=n-1) (f:=fun k=>(fun b=>if b=r then 0 else gU p r q r b) (skip r k)) (B:=272) (fun i C=>w _ (by have:=lN (j:=r) C;omega))
    have I:(n-1)*272<=4*272:=aD _ om;rw[(om:n-1+1=n)]at l
    simp only[aK,VD]at l A;omega
   have J:(gU p r q r r).natAbs<=17*17:=by
    simp only[gU,aK];rw[cH];exact aV om om
   omega
  .rename_i e;rw[wS a (fun j _ c=>by
    simp only[gU];by_cases m:j=piv
    .simp[m,e]
    .simp[m,e,aj c])]
   have:=t r a e;simp only[gU,e,aK,aM];omega
 .rename_i a;rcases aF r (n+n+1)with h|h
  .rw[wS (k:=r-n) om (fun j _ c=>by simp only[fq,a,aM];rw[af om])]
   simp only[fq,a,aM];split<;>simp
  .rw[wS (k:=0) om (fun j c _=>by simp only[fq,a,aM];rw[af om])]
   simp only[fq,a,aM];split<;>simp
def upOk:Bool:=(et 6).all fun n=>(et 6).all fun piv=>(et 6).all fun k=>(et 12).all fun r=>decide (n<k)||decide (r<k)||decide (ju (k+1) (fun a=>Dq n piv (if a<k then a else r))<=1974558465)
def KE:upOk=true:=by decide +kernel
def Ju{piv:Nat}(c:n<6)(d:piv<6)(e:k<=n)(f:k<=r)(b:r<12):ju (k+1) (fun a=>Dq n piv (if a<k then a else r))<=1974558465:=by
 have h:=KE;unfold upOk at h;simp only[aE,fS]at h;have:=h n c piv d k om r b;simp only[eX,dj]at this;omega

def bz(x y:Nat):Int×Int×Int :=
 if h:y=0 then(x,1,0)else
  have:x%y<y:=dh _ (iF h)
  ((bz y (x%y)).1,(bz y (x%y)).2.2,(bz y (x%y)).2.1-((x/y:Nat):Int)*(bz y (x%y)).2.2)
termination_by y
def nK(x:Nat):bz x 0=((x:Int),1,0):=by rw[bz];simp
def sk(x:Nat){y:Nat}(h:y≠0):bz x y=((bz y (x%y)).1,(bz y (x%y)).2.2,(bz y (x%y)).2.1-((x/y:Nat):Int)*(bz y (x%y)).2.2):=by
 rw[bz];simp[h]
def Iv:∀(n x y:Nat),y<=n->(bz x y).1=(bz x y).2.1*x+(bz x y).2.2*y:=by
 intro n
 induction n with
 | zero=>intro x y h;rw[(om:y=0),nK];simp
 | succ n ih =>
  intro x y h;by_cases a:y=0
  .rw[a,nK];simp
  .have b:=ih y (x%y) (by have:=dh x (iF a);omega)
   rw[sk x a];simp only;rw[b];have e:(x:Int)=((x/y:Nat):Int)*y+((x%y:Nat):Int):=by
    have:=dz x y;rw[aA]at this
    exact_mod_cast this.symm
   generalize ((x/y:Nat):Int)=q at *;generalize ((x%y:Nat):Int)=r at *;rw[e];grind
def Iw:∀(n x y:Nat),y<=n->(bz x y).1∣(x:Int)/\(bz x y).1∣(y:Int):=by
 intro n
 induction n with
 | zero=>intro x y h;rw[(om:y=0),nK];exact⟨iL _,jp _⟩
 | succ n ih =>
  intro x y h;by_cases a:y=0
  .rw[a,nK];exact⟨iL _,jp _⟩
  .have b:=ih y (x%y) (by have:=dh x (iF a);omega)
   rw[sk x a];refine⟨?_,b.1⟩;have e:(x:Int)=(y:Int)*((x/y:Nat):Int)+((x%y:Nat):Int):=by exact_mod_cast (dz x y).symm
   rw[e];exact iO (gX b.1) b.2
def D0:∀(n x y:Nat),y<=n->(0<x∨0<y)->0<(bz x y).1/\(bz x y).1<=max x y:=by
 intro n
 induction n with
 | zero=>intro x y h h';rw[(om:y=0),nK];simp only;omega
 | succ n ih =>
  intro x y h h';by_cases a:y=0
  .rw[a,nK];simp only;omega
  .have b:=dh x (iF a);have c:=ih y (x%y) om om;rw[sk x a];simp only;omega
def Ok:∀(n x y:Nat),y<=n->0<y->((bz x y).2.1).natAbs<=y/\((bz x y).2.2).natAbs<=max 1 x:=by
 intro n
 induction n with
 | zero=>intro x y h h';omega
 | succ n ih =>
  intro x y h h';have b:=dh x h';rw[sk x om];simp only;by_cases a:x%y=0
  .rw[a,nK];simp only;omega
  .have c:=ih y (x%y) om om;have e:=dz x y;have d:(((x/y:Nat):Int)*(bz y (x%y)).2.2).natAbs<=x/y*y:=by
    rw[cH,iG];exact aL _ om
   rw[aA]at e;omega
structure OV(x0 y0 x y:Nat)(a b na nb:Int):Prop where
 fa:a*(bz x y).2.1+na*(bz x y).2.2=(bz x0 y0).2.1
 fb:b*(bz x y).2.1+nb*(bz x y).2.2=(bz x0 y0).2.2
 fd:(bz x y).1=(bz x0 y0).1
 pos:0<x∨0<y
 sa:na.natAbs*x+a.natAbs*y=y0
 sb:nb.natAbs*x+b.natAbs*y=x0
 ga:(0<=a/\na<=0)∨(a<=0/\0<=na)
 gb:(0<=b/\nb<=0)∨(b<=0/\0<=nb)
 la:a.natAbs<=max 1 y0
 lb:b.natAbs<=max 1 x0
 lna:na.natAbs<=max 1 y0
 lnb:nb.natAbs<=max 1 x0
 lx:x<=max x0 y0
 ly:y<=max x0 y0
def OV.init(h:0<x0∨0<y0):OV x0 y0 x0 y0 1 0 0 1:=by
 refine⟨sm,sm,rfl,h,sm,sm,sm,sm,by simp;omega,sm,sm,by simp;omega,om,om⟩
def tC{q b:Int}(c:0<=q)(h:(0<=a/\b<=0)∨(a<=0/\0<=b)):(a-q*b).natAbs=a.natAbs+q.natAbs*b.natAbs/\((0<=b/\a-q*b<=0)∨(b<=0/\0<=a-q*b)):=by
 rcases h with⟨f,d⟩|⟨f,d⟩
 .have e:0<=q*(-b):=dr c om;rw[nB]at e;rw[<-cH];omega
 .have e:0<=q*b:=dr c d;rw[<-cH];omega
def OV.step{y:Nat}{b nb:Int}(h:OV x0 y0 x y a b na nb)(j:y≠0):OV x0 y0 y (x%y) na nb (a-((x/y:Nat):Int)*na) (b-((x/y:Nat):Int)*nb):=by
 have e:=dz x y;have f:=sk x j;have g:=tC (q:=((x/y:Nat):Int)) (cO _) h.ga;have i:=tC (q:=((x/y:Nat):Int)) (cO _) h.gb;rw[iG]at g i;have sa:(a-((x/y:Nat):Int)*na).natAbs*y+na.natAbs*(x%y)=y0:=by
  rw[g.1];have:=h.sa;generalize x/y=q at *;generalize x%y=r at *;subst e;rw[<-this];grind
 have sb:(b-((x/y:Nat):Int)*nb).natAbs*y+nb.natAbs*(x%y)=x0:=by
  rw[i.1];have:=h.sb;generalize x/y=q at *;generalize x%y=r at *;subst e;rw[<-this];grind
 have k:∀c d:Nat,c*y+d=y0->c<=y0:=fun c d h=>by
  have:c*1<=c*y:=aL _ om;omega
 have l:∀c d:Nat,c*y+d=x0->c<=x0:=fun c d h=>by
  have:c*1<=c*y:=aL _ om;omega
 refine⟨?_,?_,?_,bW om,sa,sb,g.2,i.2,h.lna,h.lnb,by have:=k _ _ sa;omega,by have:=l _ _ sb;omega,h.ly,by have:=h.ly;have:=dh x (iF j);omega⟩
 .have:=h.fa;rw[f]at this;simp only at this;rw[<-this];grind
 .have:=h.fb;rw[f]at this;simp only at this;rw[<-this];grind
 .have:=h.fd;rw[f]at this;exact this
def OV.fin{b nb:Int}(h:OV x0 y0 x 0 a b na nb):bz x0 y0=((x:Int),a,b):=by
 have c:=h.fa;have d:=h.fb;have e:=h.fd;rw[nK]at c d e;simp only at c d e;ext<;>simp only<;>omega

def NQ{M:aH}(f:∀i j,i<n->j<n+1->w i j=M i j)(l:∀x,fC (n+1) (n+1) H x↔fC (n+1) (n+1) w x)(m:∀i,i<n->H i n=0)(y:ig):fC n n H y↔fC n (n+1) M y:=by
 constructor
 .rintro⟨c,h⟩;obtain⟨d,k⟩:=(l (fun i=>aq (n+1) (fun j=>H i j*(if j<n then c j else 0)))).1 ⟨_,fun _ _=>rfl⟩
  refine⟨d,fun i a=>?_⟩;have b:(aq (n+1) fun j=>H i j*(if j<n then c j else 0))=aq (n+1) fun j=>w i j*d j:=k i om
  simp only[aq]at b;rw[aB (g:=fun j=>H i j*c j) (fun j e=>by rw[ah e]),<-h i a,af (cT n)]at b
  simp only[aq];rw[aB (g:=fun j=>w i j*d j) (fun j e=>by rw[f i j a om]),<-f i n a om]
  omega
 .rintro⟨d,k⟩;obtain⟨c,h⟩:=(l (fun i=>aq (n+1) (fun j=>w i j*d j))).2 ⟨d,fun _ _=>rfl⟩;refine⟨c,fun i a=>?_⟩;have b:(aq (n+1) fun j=>w i j*d j)=aq (n+1) fun j=>H i j*c j:=h i om;rw[k i a];rw[aB (g:=fun j=>M i j*d j) (fun j e=>by rw[f i j a e])]at b
  rw[b];simp only[aq];rw[m i a];simp
def Li(g:1<=N)(n:∀j,j<N->fC N N w (fun i=>H i j)) :
  ∃U:aH,(∀i j,i<N->j<N->mm N w U i j=H i j)/\∀i j,i<N->j<N->mm N (ke N w) H i j=det N w*U i j:=by
 have d:∃U:aH,∀i j,i<N->j<N->mm N w U i j=H i j:=by
  have l:∀j,∃c:ig,j<N->∀i,i<N->H i j=aq N (fun k=>w i k*c k):=fun j=>by
   by_cases a:j<N
   .obtain⟨c,d⟩:=n j a;exact⟨c,fun _=>d⟩
   .exact⟨fun _=>0,fun h=>absurd h a⟩
  refine⟨fun k j=>dM (l j) k,fun i j b a=>?_⟩;exact(dC (l j) a i b).symm
 obtain⟨U,m⟩:=d;refine⟨U,m,fun i j b a=>?_⟩;rw[rB (A':=ke N w) (B':=mm N w U) (fun _ _=>rfl) (fun k e=>(m k j e a).symm),<-ou];unfold mm;rw[cJ i b (fun k e f=>by
  have:=so g w b e;unfold mm at this;rw[this,af (aj f)];simp)]
 have:=so g w b b;unfold mm at this;rw[this,ah rfl]

def vF:Nat->(Nat->Nat)->Nat
 | 0,_=>0
 | n+1,f=>vF n f+f n*4294967296^n
def j9{f g:Nat->Nat}(h:∀i,i<n->f i=g i):vF n f=vF n g:=by
 induction n with
 | zero=>rfl
 | succ n ih=>simp only[vF];rw[ih fun i a=>h i om,h n om]
def tU{f:Nat->Nat}(h:∀i,i<n->f i<4294967296):vF n f<4294967296^n:=by
 induction n with
 | zero=>simp[vF]
 | succ n ih =>
  have b:=ih fun i c=>h i om;have a:=aD (4294967296^n) (show f n+1<=4294967296 by have:=h n om;omega)
  simp only[vF,cf];rw[dl]at a;omega
def E8(n:Nat)(f:Nat->Nat):vF (n+1) f=f 0+4294967296*vF n (fun i=>f (i+1)):=by
 induction n with
 | zero=>simp[vF]
 | succ n ih =>
  rw[show vF (n+1+1) f=vF (n+1) f+f (n+1)*4294967296^(n+1)from rfl,ih];simp only[vF,cf];generalize vF n (fun i=>f (i+1))=a;generalize 4294967296^n=p;rw[cj,show 4294967296*(f (n+1)*p)=f (n+1)*(p*4294967296) by rw[<-bB,aA 4294967296,bB,aA 4294967296]]
  omega
theorem ME:∀(l:List Nat),aZ l=vF l.length (fun i=>l.getD i 0)
 | []=>rfl
 | x::l=>by
  rw[cA,E8,aZ,ME l];rfl
def rh(m k:Nat)(f:Nat->Nat):vF (m+k) f=vF m f+4294967296^m*vF k (fun i=>f (m+i)):=by
 induction k with
 | zero=>simp[vF]
 | succ k ih =>
  rw[<-lk];simp only[vF];rw[ih,cj,fR,<-bB,aA (f (m+k)),bB,aA (f (m+k)),<-bB];omega
def Qb{P:Nat}(j:U=ul+(u2*18446744073709551616+u1*4294967296+u0)*P)(c:ul<P)(d:V=vl+(v1*4294967296+v0)*P)
  (e:g*v1+r=u2*4294967296+u1) (h:r*4294967296+u0<g*v0):U<g*V:=by
 have f:u2*18446744073709551616+u1*4294967296+u0+1<=g*(v1*4294967296+v0):=by
  rw[cj,<-bB];generalize g*v1=a at *;generalize g*v0=b at *;omega
 have i:=aD P f;rw[dl]at i;have k:g*V=g*vl+g*(v1*4294967296+v0)*P:=by rw[d,cj,bB]
 omega
def ND{P:Nat}(l:U=ul+(u2*18446744073709551616+u1*4294967296+u0)*P)(d:V=vl+(v1*4294967296+v0)*P)(c:vl<P)(f:0<v1)
  (e:g*v1+r=u2*4294967296+u1) (i:g<4294967296) (h:g*v0<=r*4294967296+u0):g*V<U+V:=by
 have j:g*(v1*4294967296+v0)<=u2*18446744073709551616+u1*4294967296+u0:=by
  rw[cj,<-bB];generalize g*v1=a at *;generalize g*v0=b at *;omega
 have m:=aD P j;have n:g*V=g*vl+g*(v1*4294967296+v0)*P:=by rw[d,cj,bB]
 have o:g*vl<=g*P:=aL g (dp c);have p:=aD P (om:4294967296<=v1*4294967296+v0)
 have k:=aD P (show g+1<=4294967296 from i);rw[dV g 1 P,kQ]at k;omega
def kn_q(h:g*V<U+V)(b:U<(g+1)*V):(g*V<=U/\U/V=g/\U%V=U-g*V)∨(U<g*V/\0<g/\U/V=g-1/\U%V=U+V-g*V):=by
 have c:0<V:=by
  rcases bn V with h|h
  .subst h;simp at b
  .exact h
 rw[dl]at b;rcases aF U (g*V)with a|a
 .refine bQ ⟨a,?_⟩
  cases g with
  | zero=>simp at a
  | succ g =>
   rw[dl]at *;have e:U=V*g+(U-g*V):=by rw[aA];omega
   refine⟨om,?_,?_⟩
   .rw[e,k9 c,eY om];rfl
   .rw[e,m9,ef om,aA V g];omega
 .refine bW ⟨a,?_,?_⟩
  .have e:U=V*g+(U-g*V):=by rw[aA];omega
   rw[e,k9 c,eY om];rfl
  .have e:U=V*g+(U-g*V):=by rw[aA];omega
   rw[e,m9,ef om,aA V g];omega
def NG(b:∀i,i<k+2->v i<4294967296)(h:vF (k+3) u<vF (k+2) v*4294967296):u (k+2)<=v (k+1):=by
 have g:=tU (n:=k+1) (f:=v) fun i j=>b i om;have c:vF (k+2) v=vF (k+1) v+v (k+1)*4294967296^(k+1):=rfl;have d:vF (k+3) u=vF (k+2) u+u (k+2)*4294967296^(k+2):=rfl;rw[c,d,cf]at h;generalize 4294967296^(k+1)=p at *;rcases aF (v (k+1)) (u (k+2))with a|a
 .have e:=aD p (show v (k+1)+1<=u (k+2)from a);rw[dl]at e;have l:u (k+2)*(p*4294967296)=u (k+2)*p*4294967296:=(bB _ _ _).symm;omega
 .exact a
def tG(k:Nat)(u:Nat->Nat):vF (k+3) u=vF k u+(u (k+2)*18446744073709551616+u (k+1)*4294967296+u k)*4294967296^k:=by
 simp only[vF,cf];generalize 4294967296^k=p;rw[dV,dV,show u (k+1)*(p*4294967296)=u (k+1)*4294967296*p by rw[aA p,bB],show u (k+2)*(p*4294967296*4294967296)=u (k+2)*18446744073709551616*p by rw[bB p,show(4294967296:Nat)*4294967296=18446744073709551616 from rfl,aA p,<-bB]]
 omega
def tF(k:Nat)(v:Nat->Nat):vF (k+2) v=vF k v+(v (k+1)*4294967296+v k)*4294967296^k:=by
 simp only[vF,cf];generalize 4294967296^k=p;rw[dV,show v (k+1)*(p*4294967296)=v (k+1)*4294967296*p by rw[aA p,bB]]
 omega
structure KG(k:Nat)(u v:Nat->Nat)(g r:Nat):Prop where
 eq:g*v (k+1)+r=u (k+2)*4294967296+u (k+1)
 le:vF (k+3) u<(g+1)*vF (k+2) v
def KG.init(c:0<v (k+1))(b:∀i,i<k+3->u i<4294967296):KG k u v ((u (k+2)*4294967296+u (k+1))/v (k+1)) ((u (k+2)*4294967296+u (k+1))%v (k+1)):=by
 have e:=dz (u (k+2)*4294967296+u (k+1)) (v (k+1));have j:=dh (u (k+2)*4294967296+u (k+1)) c;rw[aA]at e;refine⟨e,?_⟩;generalize (u (k+2)*4294967296+u (k+1))/v (k+1)=q at *;generalize (u (k+2)*4294967296+u (k+1))%v (k+1)=r at *;rw[tG,tF];have l:=tU (n:=k) (f:=u) fun i m=>b i om;have o:=b k om;generalize 4294967296^k=p at *;have d:u (k+2)*18446744073709551616+u (k+1)*4294967296+u k+1<=(q+1)*(v (k+1)*4294967296+v k):=by
  have g:(q+1)*(v (k+1)*4294967296)=(q*v (k+1)+v (k+1))*4294967296:=by rw[<-bB,dl]
  rw[cj,g];generalize q*v (k+1)=a at *;have:=jW ((q+1)*v k);omega
 have h:=aD p d;rw[dl]at h;rw[cj,<-bB];omega
def KG.step(h:KG k u v g r)(c:∀i,i<k+3->u i<4294967296)(d:vF (k+3) u<vF (k+2) v*4294967296)(a:4294967296<=g∨r*4294967296+u k<g*v k):0<g/\KG k u v (g-1) (r+v (k+1)):=by
 have b:vF (k+3) u<g*vF (k+2) v:=by
  rcases a with a|a
  .have:=aD (vF (k+2) v) a;rw[aA]at d;omega
  .exact Qb (tG k u) (tU fun i e=>c i om) (tF k v) h.eq a
 cases g with
 | zero=>simp at b
 | succ g =>
  refine⟨om,⟨?_,by simpa using b⟩⟩
  have:=h.eq;rw[dl]at this;simp only[eT];omega
def KG.g_lt(h:KG k u v g r)(b:u (k+2)<=v (k+1))(c:u (k+1)<4294967296)(d:4294967296<=r):g<4294967296:=by
 rcases aF g 4294967296 with a|a
 .exact a
 .have e:=aD (v (k+1)) a;have:=h.eq;omega
def KG.last(h:KG k u v g r)(a:∀i,i<k+2->v i<4294967296)(b:0<v (k+1))(c:g<4294967296)(d:g*v k<=r*4294967296+u k):g*vF (k+2) v<vF (k+3) u+vF (k+2) v :=
 ND (tG k u) (tF k v) (tU fun i e=>a i om) b h.eq c d
def KG.big{uk:Nat}(b:v k<4294967296)(c:g<4294967296)(a:4294967296<=r):g*v k<=r*4294967296+uk:=by
 have d:=aV (om:g<=4294967296) (om:v k<=4294967296)
 have e:=aD 4294967296 a;omega

abbrev lf(l:List Nat):Nat->Nat:=fun i=>l.getD i 0
def MY{ps:Nat->Nat}(h:vF i ps+car*4294967296^i=vF i xs*2^s):vF i ps+(car+xs i*2^s)%4294967296*4294967296^i+(car+xs i*2^s)/4294967296*4294967296^(i+1)=vF (i+1) xs*2^s:=by
 have e:=Nat.mod_add_div (car+xs i*2^s) 4294967296;simp only[vF,cf];rw[dV,<-h];generalize (car+xs i*2^s)%4294967296=a at *;generalize (car+xs i*2^s)/4294967296=b at *;generalize 4294967296^i=p at *;have c:(a+4294967296*b)*p=(car+xs i*2^s)*p:=by rw[e]
 rw[dV,dV]at c;have d:b*(p*4294967296)=4294967296*b*p:=by rw[aA p,<-bB,aA b]
 have f:xs i*p*2^s=xs i*2^s*p:=by rw[bB,aA p,<-bB]
 omega
def C7:vF i (lf (ps.set i x))=vF i (lf ps):=j9 fun j a=>gH om
def rE(h:i<ps.length):lf (ps.set i x) i=x:=by simp[lf,cS,h]
def Tb{a:Nat}(c:a<2^s):a ||| x*2^s=a+x*2^s:=by
 have h:=kP (i:=s) (b:=a) c x;rw[tO]at h;rw[UU,<-h,jY]
def LA.start(w:World)(n:Nat):LA w.heap.size w (w.alloc (.cells (dT [] n) 136)) w.heap.size n (bZ n 0):=by
 obtain⟨a,b⟩:=iE.start w n;refine⟨a,ae _,sm,fun x c=>by rw[(Ve.1 c).2];omega,_,b,fun j d=>?_⟩
 rw[mJ _ 0 j (by simp;omega)];simp
def sK(A:Option Addr)(n c s L:Nat)(xs:List Nat)(w:World)(hn:n<=268435456)(hs:s<32)(hL:L<=w.heap.size)(hx:cI w L A n xs) :
  Calls ai 199 #[.slice A n c,.int .i64 s] w fun e w'=>∃c' ps,e=.returned (.slice (some ⟨w.heap.size,0,none⟩) (n+1:Nat) c')/\n+1<=c'/\LA w.heap.size w w' w.heap.size (n+1) ps/\vF (n+1) (lf ps)=vF n (lf xs)*2^s:=by
 have hmk:=DA (n+1) om;rw[show((n+1:Nat):Int)=(n:Int)+1 by omega]at hmk
 have HX:=ac hx;clear hx
 go_enter func199,ntmps199
 go_wp2;clear hmk;have hs0:¬(s:Int)<0:=om
 have hmin:min s 64=s:=om
 go_loopw [6,15] (fun cv iv wr=>∃(i car:Nat) (ps:List Nat),i<=n/\iv=.int .i64 i/\cv=.int .u64 car/\car<2^s/\Hid (LA w.heap.size w wr w.heap.size (n+1) ps)/\Hid (vF i (lf ps)+car*4294967296^i=vF i (lf xs)*2^s)) (fun _ iv _=>n-(intOf iv).toNat)
 case atStart=>exact⟨0,0,bZ (n+1) 0,om,rfl,rfl,jc s,ac (LA.start w (n+1)),ac (by simp[vF])⟩
 case round =>
  obtain⟨i,car,ps,hi,rfl,rfl,hcar,HF,HS⟩:=hrel;by_cases hin:i<n
  .obtain⟨ad,x,rfl,hab,hxx,hx4,hcx⟩:=(HX.out.below HF.out.1 hL).at_ (k:=i) om;have HXX:=ac hxx;clear hxx;have hin':(i:Int)<n:=om
   have hin2:(i:Int)<(n:Int)+1:=om
   have hi0:(0:Int)<=i:=om
   obtain⟨hcp,hfp⟩:=HF.out.at_ (k:=i) om;generalize ps.getD i 0=pp at hcp;have hz:x*2^s<=4294967295*2^s/\(2:Nat)^s<=2147483648:=⟨aD _ om,cu om (om:s<=31)⟩
   have HO:Hid (bits .or .u64 (car:Int) (IntKind.u64.wrap ((x:Int)*2^s))=((car+x*2^s:Nat):Int)):=ac (by
    have e1:IntKind.u64.wrap ((x:Int)*2^s)=((x*2^s:Nat):Int):=by
     rw[show((x:Int)*2^s)=((x*2^s:Nat):Int) by rw[bF,VC];rfl,ci]
     generalize 2^s=t at *;generalize x*t=z at *;omega
    rw[e1,yi _ _ (by generalize 2^s=t at *;omega) (by generalize 2^s=t at *;generalize x*t=z at *;omega),Tb hcar])
   have hst:=MY HS.out;rw[show lf xs i=x from HXX.out]at hst;have hc2:(car+x*2^s)/4294967296<2^s:=by
    rw[yc om];generalize 2^s=t at *;generalize x*t=z at *;omega
   have HST:=ac hst;clear hst;have HZ:=ac hz;clear hz;go_wp2
   go_roundw
   case rel =>
    rw[HO.out];have hput:=HF.out.put (k:=i) (x:=(car+x*2^s)%4294967296) om om;refine⟨i+1,(car+x*2^s)/4294967296,_,om,by go_num,by go_num,hc2,ac (by simpa using hput),ac ?_⟩
    rw[<-HST.out];simp only[vF];rw[C7,rE (by rw[HF.out.2.2.1];omega)]
   case measure=>simp[intOf];omega
  .obtain rfl:i=n:=om
   obtain⟨hcp,hfp⟩:=HF.out.at_ (k:=i) om;generalize ps.getD i 0=pp at hcp;have hc4:(2:Nat)^s<=2147483648:=cu om (om:s<=31)
   have hcar4:car<4294967296:=om
   have HC4:=ac hc4;clear hc4;have hin2:(i:Int)<(i:Int)+1:=om
   have hput:=HF.out.put (k:=i) (x:=car) om hcar4;have HP:=ac hput;clear hput;go_wp2;go_ret;refine⟨i+1,by go_num,ae _,ps.set i car,by simpa using HP.out,?_⟩
   rw[<-HS.out];simp only[vF];rw[C7,rE (by rw[HF.out.2.2.1];omega)]
def MW{y:Nat}(c:x<4294967296)(f:s<32):2^s*((x+y*4294967296)/2^s%4294967296)+x%2^s=x+(y%2^s)*4294967296:=by
 have a:2^s*2^(32-s)=4294967296:=by rw[<-fR,(om:s+(32-s)=32)]
 have b:=jc s;have g:=jc (32-s);generalize 2^s=P at *;generalize 2^(32-s)=Q at *;have d:(x+y*4294967296)/P=x/P+y*Q:=by
  rw[<-a,show y*(P*Q)=P*(y*Q) by rw[<-bB,aA y,bB],UW _ _ b]
 have e:y*Q=4294967296*(y/P)+y%P*Q:=by
  have h:=dz y P;rw[<-a];have:(P*(y/P)+y%P)*Q=y*Q:=by rw[h]
  rw[<-this,dV];congr 1;rw[bB,aA (y/P),<-bB]
 have i:x/P<Q:=by rw[yc b,aA,a];exact c
 have j:y%P*Q+Q<=4294967296:=by
  have h:=aD Q (dh y b);rw[dl,a]at h;exact h
 rw[d,e,(om:x/P+(4294967296*(y/P)+y%P*Q)=(x/P+y%P*Q)+4294967296*(y/P)),OJ,ef om,cj]
 have k:=dz x P;have l:P*(y%P*Q)=y%P*4294967296:=by rw[<-a,<-bB,<-bB,aA P]
 omega
def Fl{x:Nat->Nat}(h:2^s*vF i y+x 0%2^s=vF i x+x i%2^s*4294967296^i)(a:x i<4294967296)(b:s<32)(c:y i=(x i+x (i+1)*4294967296)/2^s%4294967296):2^s*vF (i+1) y+x 0%2^s=vF (i+1) x+x (i+1)%2^s*4294967296^(i+1):=by
 have e:=MW (x:=x i) (y:=x (i+1)) a b;rw[<-c]at e;simp only[vF,cf];generalize 4294967296^i=p at *;have d:(2^s*y i+x i%2^s)*p=(x i+x (i+1)%2^s*4294967296)*p:=by rw[e]
 rw[dV,dV]at d;rw[cj,<-bB (2^s) (y i),show x (i+1)%2^s*(p*4294967296)=x (i+1)%2^s*4294967296*p by rw[bB,aA p]]
 omega
def H8(h:l.length<=i):lf l i=0:=by simp[lf,cS,cK h]
def shrI(z s:Nat):(z:Int)/2^s%4294967296=((z/2^s%4294967296:Nat):Int):=by
 rw[kw,l8,VC];rfl
def uF(h:nH l)(i:Nat):lf l i<4294967296:=h.getD i
def MX{x:Nat->Nat}(h:2^s*vF n y+x 0%2^s=vF n x+x n%2^s*4294967296^n)(b:x n=0):vF n y=vF n x/2^s:=by
 have a:=jc s;have c:=dh (x 0) a;rw[b,Nat.zero_mod,vS,cN]at h;rw[<-h,k9 a,eY c];rfl
def zM(B:Nat)(w0 w:World)(g n c s:Nat)(xs:List Nat)(hn:n<=268435456)(hs:s<32)(h:LA B w0 w g n xs)(P:World->Prop)(hPc:∀(wr:World) (q:Nat) (u:Value),P wr->P (wr.setCell ⟨g,q,none⟩ u))(hP:P w) :
  Calls ai 201 #[.slice (some ⟨g,0,none⟩) n c,.int .i64 s] w fun e w'=>∃ps,e=.returned (.tuple #[])/\LA B w0 w' g n ps/\P w'/\vF n (lf ps)=vF n (lf xs)/2^s:=by
 have hxl:=h.2.2.1;have HL:=ac h.2.2.2.1;have HA:=ac h;clear h;have HPC:=ac hPc;clear hPc;have HP0:=ac hP;clear hP;have hs0:¬(s:Int)<0:=om
 have hmin:min s 64=s:=om
 go_enter func201,ntmps201
 go_wp2
 go_loopw [8] (fun iv wr=>∃(i:Nat) (ps:List Nat),i<=n/\iv=.int .i64 i/\Hid (LA B w0 wr g n ps)/\Hid (P wr)/\Hid (∀k,i<=k->lf ps k=lf xs k)/\Hid (2^s*vF i (lf ps)+lf xs 0%2^s=vF i (lf xs)+lf xs i%2^s*4294967296^i)) (fun iv _=>n-(intOf iv).toNat)
 case atStart=>exact⟨0,xs,om,rfl,HA,HP0,ac fun _ _=>rfl,ac (by simp[vF])⟩
 case round =>
  clear HA;obtain⟨i,ps,hi,rfl,HF,HPP,HK,HS⟩:=hrel;by_cases hin:i<n
  .obtain⟨hcp,hfp⟩:=HF.out.at_ (k:=i) hin;rw[show ps.getD i 0=lf xs i from HK.out i (ae _)]at hcp;have hx4:=uF HL.out i;have hin':(i:Int)<n:=om
   have hi0:(0:Int)<=i:=om
   by_cases hi1:i+1<n
   .obtain⟨hcq,hfq⟩:=HF.out.at_ (k:=i+1) hi1;rw[show ps.getD (i+1) 0=lf xs (i+1)from HK.out (i+1) om]at hcq;have hy4:=uF HL.out (i+1);have hsp:=Fl (y:=fun k=>if k=i then(lf xs i+lf xs (i+1)*4294967296)/2^s%4294967296 else lf ps k) (x:=lf xs) (i:=i) (s:=s) (by rw[<-HS.out];congr 2;exact j9 fun j hj=>af om) hx4 hs (ah rfl)
    generalize hxx:lf xs i=x at hcp hx4 hsp;generalize hyy:lf xs (i+1)=y at hcq hy4 hsp;have HO:Hid (bits .or .u64 (x:Int) ((y:Int)*4294967296)/2^s%4294967296=(((x+y*4294967296)/2^s%4294967296:Nat):Int)):=ac (by
     rw[show(y:Int)*4294967296=((y*4294967296:Nat):Int) by omega,yi _ _ om om,Ho hx4,shrI])
    have HSP:=ac hsp;clear hsp;have hi1':(i:Int)+1<n:=om
    go_wp2
    go_roundw
    case rel =>
     rw[HO.out];have hput:=HF.out.put (k:=i) (x:=(x+y*4294967296)/2^s%4294967296) om om;refine⟨i+1,_,om,by go_num,ac hput,ac (HPC.out _ _ _ HPP.out),ac fun k hk=>?_,ac ?_⟩
     .rw[lf,gH om];exact HK.out k om
     .rw[hyy,<-HSP.out];congr 2;simp only[vF,aK];rw[C7,rE (by rw[HF.out.2.2.1];omega)]
      congr 1;exact j9 fun j hj=>(af om).symm
    case measure=>simp[intOf];omega
   .have hy0:lf xs (i+1)=0:=H8 om;have hsp:=Fl (y:=fun k=>if k=i then lf xs i/2^s%4294967296 else lf ps k) (x:=lf xs) (i:=i) (s:=s) (by rw[<-HS.out];congr 2;exact j9 fun j hj=>af om) hx4 hs (by rw[ah rfl,hy0,vS,cN])
    generalize hxx:lf xs i=x at hcp hx4 hsp;have HO:Hid ((x:Int)/2^s%4294967296=((x/2^s%4294967296:Nat):Int)):=ac (shrI x s);have HSP:=ac hsp;clear hsp;have hi1':¬(i:Int)+1<n:=om
    go_wp2
    go_roundw
    case rel =>
     rw[HO.out];have hput:=HF.out.put (k:=i) (x:=x/2^s%4294967296) om om;refine⟨i+1,_,om,by go_num,ac hput,ac (HPC.out _ _ _ HPP.out),ac fun k hk=>?_,ac ?_⟩
     .rw[lf,gH om];exact HK.out k om
     .rw[<-HSP.out];congr 2;simp only[vF,aK];rw[C7,rE (by rw[HF.out.2.2.1];omega)]
      congr 1;exact j9 fun j hj=>(af om).symm
    case measure=>simp[intOf];omega
  .obtain rfl:i=n:=om
   have HE:=ac (MX HS.out (H8 om));go_wp2;exact bodyPost_end (v:=.tuple #[]) (by simp[results,results201]) rfl ⟨ps,rfl,HF.out,HPP.out,HE.out⟩

def Tp{qW:Nat}(h:vF i q+g*vF i v=vF i u+(qW+car)*4294967296^i)(k:qW<=1)(l:u i<4294967296)
  (d:∀m,m<i->q' m=q m) (e:q' i=(u i+18446744073709551616-(car+g*v i)%4294967296-qW)%4294967296) :
  (u i+18446744073709551616-(car+g*v i)%4294967296-qW)%18446744073709551616/9223372036854775808<=1/\q' i<4294967296 /\
  vF (i+1) q'+g*vF (i+1) v=vF (i+1) u+((u i+18446744073709551616-(car+g*v i)%4294967296-qW)%18446744073709551616/9223372036854775808+(car+g*v i)/4294967296)*4294967296^(i+1):=by
 have n:=dz (car+g*v i) 4294967296;have o:=dh (car+g*v i) (om:0<4294967296)
 generalize hlo:(car+g*v i)%4294967296=lo at *;generalize (car+g*v i)/4294967296=a at *;have b:(u i+18446744073709551616-lo-qW)%18446744073709551616/9223372036854775808<=1:=om
 have hlimb:q' i+lo+qW=u i+(u i+18446744073709551616-lo-qW)%18446744073709551616/9223372036854775808*4294967296:=by
  rw[e];rcases aF (u i) (lo+qW)with f|f<;>omega
 generalize (u i+18446744073709551616-lo-qW)%18446744073709551616/9223372036854775808=c at *;refine⟨b,om,?_⟩
 simp only[vF,cf];rw[j9 d,cj,<-bB];generalize 4294967296^i=p at *;generalize g*v i=gv at *;have j:(q' i+gv)*p+(qW+car)*p=u i*p+(c+a)*(p*4294967296):=by
  rw[show(c+a)*(p*4294967296)=(c+a)*4294967296*p by rw[aA p,bB],<-dV,<-dV]
  congr 1;omega
 rw[dV]at j;omega
def Ts(h:vF i q+car*4294967296^i=vF i u+vF i v)
  (b:∀m,m<i->q' m=q m) (c:q' i=(car+(u i+v i))%4294967296) :
  vF (i+1) q'+(car+(u i+v i))/4294967296*4294967296^(i+1)=vF (i+1) u+vF (i+1) v:=by
 have d:=dz (car+(u i+v i)) 4294967296;rw[<-c]at d;generalize (car+(u i+v i))/4294967296=a at *;simp only[vF,cf];rw[j9 b];generalize 4294967296^i=p at *;have e:q' i*p+a*(p*4294967296)=u i*p+v i*p+car*p:=by
  rw[show a*(p*4294967296)=a*4294967296*p by rw[aA p,bB],<-dV,<-dV,<-dV]
  congr 1;omega
 omega
def Qd(c:KG k u v g r)(h:vF (k+3) q+g*vF (k+2) v=vF (k+3) u+b*4294967296^(k+3))(d:b=0) :
  g=vF (k+3) u/vF (k+2) v/\vF (k+3) q=vF (k+3) u%vF (k+2) v:=by
 rw[d,vS,cN (vF (k+3) u)]at h;have e:=c.le;rw[dl]at e;have f:vF (k+3) u=vF (k+2) v*g+vF (k+3) q:=by rw[<-h,aA];omega
 have a:vF (k+3) q<vF (k+2) v:=om
 rw[f];exact⟨by rw[k9 om,eY a];rfl,by rw[m9,ef a]⟩
def Qc{q2:Nat->Nat}(e:KG k u v g r)(f:g*vF (k+2) v<vF (k+3) u+vF (k+2) v)(j:∀i,i<k+3->q i<4294967296)(d:∀i,i<k+3->q2 i<4294967296)(l:∀i,i<k+2->v i<4294967296)
  (h:vF (k+3) q+g*vF (k+2) v=vF (k+3) u+b*4294967296^(k+3)) (m:b=1) (t:vF (k+3) q2+c*4294967296^(k+3)=vF (k+3) q+vF (k+2) v) :
  0<g/\g-1=vF (k+3) u/vF (k+2) v/\vF (k+3) q2=vF (k+3) u%vF (k+2) v:=by
 rw[m,kQ]at h;have w:=tU j;have x:=tU d;have y:=tU l;have z:(4294967296:Nat)^(k+2)<=4294967296^(k+3):=cu om om;have A:vF (k+3) u<g*vF (k+2) v:=om
 have n:=kn_q f e.le;rcases n with⟨B,_⟩|⟨_,o,p,s⟩
 .omega
 refine⟨o,p.symm,?_⟩;rw[s];have a:vF (k+3) q2+c*4294967296^(k+3)=(vF (k+3) u+vF (k+2) v-g*vF (k+2) v)+4294967296^(k+3):=om
 generalize 4294967296^(k+3)=M at *
 match c,a with
 | 0,a=>omega
 | 1,a=>omega
 | c+2,a =>
  have:(c+2)*M=c*M+2*M:=dV _ _ _;omega
def jV(f:Nat->Nat)(j:Nat):Nat->Nat:=fun t=>f (j+t)
def NF{z:Nat}{r:Nat->Nat}(a:∀t,t<j->r' t=r t)(b:∀t,j+n+1<=t->r' t=r t) :
  vF (j+(n+1)+z) r'+4294967296^j*vF (n+1) (jV r j)=vF (j+(n+1)+z) r+4294967296^j*vF (n+1) (jV r' j):=by
 rw[rh (j+(n+1)) z r',rh (j+(n+1)) z r,rh j (n+1) r',rh j (n+1) r,j9 (n:=j) a,j9 (n:=z) (f:=fun i=>r' (j+(n+1)+i)) (g:=fun i=>r (j+(n+1)+i)) fun i _=>b _ om];show _+4294967296^j*vF (n+1) (jV r' j)+_+_=_+4294967296^j*vF (n+1) (jV r j)+_+_;omega
def yz{f:Nat->Nat}(h:∀i,i<n->f i=0):vF n f=0:=by
 induction n with
 | zero=>rfl
 | succ n ih=>simp only[vF];rw[ih fun i a=>h i om,h n om,vS]
structure DN(n m X V J:Nat)(q r:Nat->Nat):Prop where
 q0:∀t,t<J->q t=0
 sum:vF (m+n+1) r+vF (m+1) q*V=X
 rest:vF n (jV r J)<V
 top:∀t,J+n<=t->r t=0
 J:J<=m+1
def DN.init{r:Nat->Nat}(b:∀t,q t=0)(a:vF (m+n+1) r=X)(d:X<V*4294967296^(m+1))(e:∀t,m+n+1<=t->r t=0):DN n m X V (m+1) q r:=by
 refine⟨fun t _=>b t,by rw[yz (n:=m+1) fun i _=>b i];simpa using a,?_,fun t h=>e t om,om⟩
 rw[(om:m+n+1=m+1+n),rh]at a
 have c:4294967296^(m+1)*vF n (jV r (m+1))<=X:=by rw[<-a];exact Vz _ _
 rw[aA]at c;exact Mi (eS c d)
def DN.under{r:Nat->Nat}(h:DN n m X V (j+1) q r)(c:r j<4294967296):vF (n+1) (jV r j)<V*4294967296:=by
 rw[E8];have a:=h.rest;have b:vF n (fun i=>jV r j (i+1))=vF n (jV r (j+1)):=j9 fun i _=>by simp only[jV];congr 1;omega
 rw[b];show r j+_<_;have d:4294967296*(vF n (jV r (j+1))+1)<=4294967296*V:=aL _ a;rw[aA V];omega
def DN.step{r:Nat->Nat}(h:DN n m X V (j+1) q r)(F:V<=4294967296^n)(c:0<V)(l:∀t,t<j->r' t=r t)(k:∀t,j+n+1<=t->r' t=r t)(o:vF (n+1) (jV r' j)=vF (n+1) (jV r j)%V)
  (f:∀t,t≠j->q' t=q t) (g:q' j=vF (n+1) (jV r j)/V):DN n m X V j q' r':=by
 have G:=h.J;have s:=dh (vF (n+1) (jV r j)) c;have b:r' (j+n)=0:=by
  have e:vF (n+1) (jV r' j)=vF n (jV r' j)+r' (j+n)*4294967296^n:=rfl;rcases bn (r' (j+n))with a|a
  .exact a
  .have:=aD (4294967296^n) (show 1<=r' (j+n)from a);omega
 refine⟨fun t v=>by rw[f t om];exact h.q0 t om,?_,?_,fun t v=>?_,om⟩
 .obtain⟨z,w⟩:∃z,m+n+1=j+(n+1)+z:=⟨m-j,om⟩
  have a:=NF (z:=z) l k;rw[<-w]at a;have H:=h.sum;obtain⟨y,x⟩:∃y,m+1=j+1+y:=⟨m-j,om⟩
  have A:vF (m+1) q'=vF (m+1) q+q' j*4294967296^j:=by
   rw[x,rh,rh (j+1)];have B:vF (j+1) q'=q' j*4294967296^j:=by
    show vF j q'+_=_;rw[yz fun i C=>by rw[f i om];exact h.q0 i om];omega
   have D:vF (j+1) q=0:=yz fun i C=>h.q0 i om;have E:vF y (fun i=>q' (j+1+i))=vF y (fun i=>q (j+1+i)):=j9 fun i _=>f _ om;rw[B,D,E];omega
  rw[A,g,dV];have e:=dz (vF (n+1) (jV r j)) V;rw[<-o]at e;generalize vF (n+1) (jV r j)/V=d at *;generalize vF (n+1) (jV r j)=u at *;generalize vF (n+1) (jV r' j)=u' at *;generalize 4294967296^j=p at *;have I:p*u=d*p*V+p*u':=by
   rw[<-e,cj,aA V d,<-bB,aA p d]
  omega
 .have e:vF (n+1) (jV r' j)=vF n (jV r' j)+r' (j+n)*4294967296^n:=rfl;omega
 .rcases aF t (j+n+1)with a|a
  .rw[(om:t=j+n)];exact b
  .rw[k t a];exact h.top t om
def DN.last{r:Nat->Nat}(h:DN n m X V 0 q r):vF (m+1) q=X/V/\vF (m+n+1) r=X%V:=by
 have b:vF (m+n+1) r=vF n (jV r 0):=by
  rw[(om:m+n+1=n+(m+1)),rh,yz (n:=m+1) fun i _=>h.top _ om,d7,cN]
  exact j9 fun i _=>by simp[jV]
 have a:=h.rest;have c:=h.sum;rw[b]at *;have e:X=V*vF (m+1) q+vF n (jV r 0):=by rw[aA];omega
 rw[e];exact⟨by rw[k9 om,eY a];rfl,by rw[m9,ef a]⟩

end Go.Proofs.YtdobfmlmenaajaaGreatDoor
