/-
  Lemmas for NeighbourRaw.
-/
import Derived.Test.YtdobfmlmenaajaaGreatDoorH11
namespace Go.Proofs.YtdobfmlmenaajaaGreatDoor
open Go.RowKit Tryz
open _root_.List renaming getD→cT
open _root_.Nat renaming beq→ap,ble→jB,div→qM
open _root_.Option renaming none→ab
set_option maxHeartbeats 6400000
set_option maxRecDepth 4096
set_option linter.all false
variable{D a q s xc xj:Int}{K K' N X Y b c i j k m n r:Nat}{S:St}{α:Type}{A A0 A1 B R:aI}
def kv(A:aI)(i j:Nat)(q:Int):aI:=fun r c=>if c=i then A r i-q*A r j else A r c
def l8(A:aI)(i:Nat):aI:=fun r c=>if c=i then-A r i else A r c
def B7(A:aI)(i j:Nat):aI:=fun r c=>A r (dO i j c)
def qo(n m:Nat)(A B:aI):Prop:=∀x,fy n m A x↔fy n m B x
def qo.refl(n m:Nat)(A:aI):qo n m A A:=fun _=>Iff.rfl
def qo.trans{C:aI}(h:qo n m A B)(k:qo n m B C):qo n m A C:=fun x=>(h x).trans (k x)
def qo.of(a:∀j,j<m->fy n m A (fun i=>B i j))(b:∀j,j<m->fy n m B (fun i=>A i j)):qo n m A B :=
 fun _=>⟨fy.sub (fy.lat n m B) b,fy.sub (fy.lat n m A) a⟩
def FD(A:aI){i k:Nat}(d:i<m)(c:k<m)(b:i≠k)(q:Int):qo n m A (kv A i k q):=by
 refine qo.of (fun j a=>?_) (fun j a=>?_)
 .by_cases e:j=i
  .subst e;exact(fy.lat n m A).ext _ _ ((fy.lat n m A).comb _ _ (fy.col a) (fy.col c) 1 (-q)) (fun r _=>by simp only[kv,aQ];grind)
  .exact(fy.lat n m A).ext _ _ (fy.col a) (fun r _=>by simp[kv,e])
 .by_cases e:j=i
  .subst e;refine(fy.lat n m _).ext _ _ ((fy.lat n m _).comb _ _ (fy.col (j:=j) a) (fy.col (j:=k) c) 1 q) (fun r _=>?_);simp only[kv,aQ,af (aj b)];grind
  .exact(fy.lat n m _).ext _ _ (fy.col (j:=j) a) (fun r _=>by simp[kv,e])
def PP(A:aI){i k:Nat}(d:i<m)(e:k<m):qo n m A (B7 A i k):=by
 have c:∀j,j<m->dO i k j<m:=fun j a=>by unfold dO;split<;>(try split)<;>omega
 have b:∀j,dO i k (dO i k j)=j:=fun j=>by unfold dO;grind
 refine qo.of (fun j a=>fy.col (c j a)) (fun j a=>?_);have:=fy.col (n:=n) (B:=B7 A i k) (c j a);simpa only[B7,b]using this
def Nl(A:aI){i:Nat}(b:i<m):qo n m A (l8 A i):=by
 refine qo.of (fun j a=>?_) (fun j a=>?_)
 .by_cases e:j=i
  .subst e;exact(fy.lat n m A).ext _ _ ((fy.lat n m A).smul (fy.col a) (-1)) (fun r _=>by simp[l8])
  .exact(fy.lat n m A).ext _ _ (fy.col a) (fun r _=>by simp[l8,e])
 .by_cases e:j=i
  .subst e;exact(fy.lat n m _).ext _ _ ((fy.lat n m _).smul (fy.col (j:=j) a) (-1)) (fun r _=>by simp[l8])
  .exact(fy.lat n m _).ext _ _ (fy.col (j:=j) a) (fun r _=>by simp[l8,e])
def rC(x q y:Int):(x-q*y).natAbs<=x.natAbs+q.natAbs*y.natAbs:=by
 rw[<-cJ];omega
def NH{r:Int}(b:q.natAbs*s.natAbs<=a.natAbs+r.natAbs):xj.natAbs*r.natAbs+(xc-q*xj).natAbs*s.natAbs<=xc.natAbs*s.natAbs+xj.natAbs*a.natAbs+2*(xj.natAbs*r.natAbs):=by
 have c:=aB s.natAbs (rC xc q xj);have d:=aM xj.natAbs b;rw[dM]at c;rw[cg]at d;have e:q.natAbs*xj.natAbs*s.natAbs=xj.natAbs*(q.natAbs*s.natAbs):=by rw[aA q.natAbs,bC]
 omega
def Qo{r:Int}(b:q.natAbs*s.natAbs+r.natAbs<=a.natAbs):xj.natAbs*r.natAbs+(xc-q*xj).natAbs*s.natAbs<=xc.natAbs*s.natAbs+xj.natAbs*a.natAbs:=by
 have c:=aB s.natAbs (rC xc q xj);have d:=aM xj.natAbs b;rw[dM]at c;rw[cg]at d;have e:q.natAbs*xj.natAbs*s.natAbs=xj.natAbs*(q.natAbs*s.natAbs):=by rw[aA q.natAbs,bC]
 omega
def Tb(b:s≠0):0<=a-a/s*s/\(a-a/s*s).natAbs<s.natAbs/\(a/s).natAbs*s.natAbs<=a.natAbs+(a-a/s*s).natAbs:=by
 have e:=aW a b;have f:=UC a b;have c:=dC a s;rw[cX s]at c;have d:(a/s).natAbs*s.natAbs=(a/s*s).natAbs:=(cJ ..).symm;rw[d];generalize a/s*s=z at *;omega
def Qp(d:0<a)(e:0<s):(a/s).natAbs*s.natAbs+(a-a/s*s).natAbs<=a.natAbs:=by
 have f:=aW a (om:s≠0)
 have b:=dC a s;rw[cX s]at b;have c:(a/s).natAbs*s.natAbs=(a/s*s).natAbs:=(cJ ..).symm;have g:0<=a/s*s:=cK (mL om om) om;rw[c];generalize a/s*s=z at *;omega
def UD(N X Y row c j:Nat)(A:aI):Prop :=
 ((A row c).natAbs<=Y/\(A row j).natAbs<=Y)/\((∀r,r<N->(A r c).natAbs<=X/\(A r j).natAbs<=X) ∨
 (0<=A row j/\(A row j).natAbs<(A row c).natAbs/\(∀r,r<N->(A r c).natAbs<=12*(X*Y)) /\
  ((∀r,r<N->(A r c).natAbs*(A row j).natAbs+(A r j).natAbs*(A row c).natAbs<=4*(X*Y)) ∨
    (0<A row c/\∀r,r<N->(A r c).natAbs*(A row j).natAbs+(A r j).natAbs*(A row c).natAbs<=12*(X*Y)))))
def L7(A:aI)(row c j:Nat):aI:=B7 (kv A c j (A row c/A row j)) c j
def NI{row:Nat}(h:c≠j):L7 A row c j r c=A r j:=by
 simp[L7,B7,kv,dO,aj h]
def JV{row:Nat}(h:c≠j):L7 A row c j r j=A r c-A row c/A row j*A r j:=by
 simp[L7,B7,kv,dO,aj h]
def FP{row:Nat}(a:k≠c)(b:k≠j):L7 A row c j r k=A r k:=by
 simp[L7,B7,kv,dO,a,b]
def FC(X:Nat):X<=X*X:=by
 rcases a6 X with h|h
 .subst h;omega
 .exact tv X h
def UD.bd{row:Nat}(h:UD N X Y row c j A)(d:0<Y){r:Nat}(b:r<N):(A r c).natAbs<=12*(X*Y)/\(A r j).natAbs<=12*(X*Y):=by
 have f:X<=X*Y:=tv X d;rcases h.2 with h|⟨g,i,e,a⟩
 .have:=h r b;omega
 .refine⟨e r b,?_⟩;have k:=aM (A r j).natAbs (om:1<=(A row c).natAbs)
  rcases a with a|⟨_,a⟩
  .have:=a r b;omega
  .have:=a r b;omega
def UD.step{row:Nat}(h:UD N X Y row c j A)(l:0<Y)(b:c≠j)(m:A row j≠0):UD N X Y row c j (L7 A row c j)/\(L7 A row c j row j).natAbs<(A row j).natAbs:=by
 obtain⟨n,f,g⟩:=Tb (a:=A row c) m;obtain⟨o,q⟩:=h.1;refine⟨⟨by rw[NI b,JV b];omega,bH ?_⟩,by rw[JV b];exact f⟩
 simp only[NI b,JV b];refine⟨n,f,fun r d=>(h.bd l d).2,?_⟩;rcases h.2 with h|⟨v,w,x,e⟩
 .refine bF fun r d=>?_;obtain⟨s,i⟩:=h r d;have p:=NH (xc:=A r c) (xj:=A r j) g;have k:=a9 s q;have y:=a9 i o;have t:=a9 i (show(A row c-A row c/A row j*A row j).natAbs<=Y by omega)
  omega
 .rcases e with e|⟨u,e⟩
  .refine bH ⟨om,fun r d=>?_⟩
   have p:=NH (xc:=A r c) (xj:=A r j) g;have k:=e r d;have t:=aM (A r j).natAbs (show(A row c-A row c/A row j*A row j).natAbs<=(A row c).natAbs by omega)
   omega
  .refine bH ⟨om,fun r d=>?_⟩
   have p:=Qo (xc:=A r c) (xj:=A r j) (Qp u (om:0<A row j))
   have k:=e r d;omega
def gg(K m:Nat):Nat->Nat
 | 0=>K
 | i+1=>(if i=0 then 1 else 2)*(gg K m i+(m-1-i)*(gg K m i+4))+4
theorem Rv(K m:Nat):∀i d,gg K m i<=gg K m (i+d)
 | i,0=>ae _
 | i,d+1=>by have:=Rv K m i d;show _<=(if i+d=0 then 1 else 2)*(gg K m (i+d)+_)+4;split<;>omega
def JS{i':Nat}(h:i<=i'):gg K m i<=gg K m i':=by
 obtain⟨d,rfl⟩:∃d,i'=i+d:=⟨i'-i,om⟩
 exact Rv K m i d
def p12(k j:Nat):12*(2^k*2^j)<=2^(k+j+4):=by
 rw[<-fJ,fJ 2 (k+j) 4];omega
def pn{a:Nat}(h:a<=b):2^a<=2^b:=cp om h
structure Mc(n m row c j:Nat)(A0 A:aI):Prop where
 lat:qo n m A0 A
 left:∀r k,k<c->A r k=A0 r k
 low:∀r k,r<row->c<=k->k<m->A r k=0
 done:∀k,c<k->k<j->A row k=0
def Bd(N m K:Nat)(A:aI):Prop:=∀r k,r<N->k<m->(A r k).natAbs<=2^K
structure Re(n m N K b row c j:Nat)(A0 A:aI):Prop where
 ga:Mc n m row c j A0 A
 oth:∀r k,r<N->k<m->k≠c->k≠j->(A r k).natAbs<=2^K
 rw:∀k,c<=k->k<m->(A row k).natAbs<=2^b
 eu:UD N (2^K) (2^b) row c j A
def Mc.eu{row:Nat}(h:Mc n m row c j A0 A)(d:Bd N m K A)(e:∀k,c<=k->k<m->(A row k).natAbs<=2^b)(g:c<m)(f:c<=j)(i:j<m):Re n m N K b row c j A0 A :=
 ⟨h,fun r k a l _ _=>d r k a l,e,⟨e c (ae _) g,e j f i⟩,bF fun r a=>⟨d r c a g,d r j a i⟩⟩
def Re.step{row:Nat}(h:Re n m N K b row c j A0 A)(q:c<j)(o:j<m)(s:A row j≠0):Re n m N K b row c j A0 (L7 A row c j)/\(L7 A row c j row j).natAbs<(A row j).natAbs:=by
 obtain⟨p,t⟩:=h.eu.step (iK om) om s;refine⟨⟨⟨h.ga.lat.trans ((FD A om o om _).trans (PP _ om o)),fun r k a=>?_,fun r k e a d=>?_,fun k i l=>?_⟩,fun r k e a i l=>?_,fun k a d=>?_,p⟩,t⟩
 .rw[FP om om];exact h.ga.left r k a
 .have u:=h.ga.low r c e om om;have z2:=h.ga.low r j e om o;by_cases f:k=c
  .subst f;rw[NI om];exact z2
  .by_cases g:k=j
   .subst g;rw[JV om,u,z2];simp
   .rw[FP f g];exact h.ga.low r k e a d
 .rw[FP om om];exact h.ga.done k i l
 .rw[FP i l];exact h.oth r k e a i l
 .by_cases f:k=c
  .subst f;exact p.1.1
  .by_cases g:k=j
   .subst g;exact p.1.2
   .rw[FP f g];exact h.rw k a d
def Re.bd{row:Nat}(h:Re n m N K b row c j A0 A):Bd N m (K+b+4) A:=fun r k a g=>by
 have e:=p12 K b;have i:=pn (om:K<=K+b+4)
 have l:=h.eu.bd (iK om) a;by_cases d:k=c
 .subst d;omega
 .by_cases f:k=j
  .subst f;omega
  .have:=h.oth r k a g d f;omega
def Re.fin{row:Nat}(h:Re n m N K b row c j A0 A)(a:A row j=0):Mc n m row c (j+1) A0 A/\Bd N m (K+b+4) A :=
 ⟨⟨h.ga.lat,h.ga.left,h.ga.low,fun k d f=>by
  by_cases e:k=j
  .subst e;exact a
  .exact h.ga.done k d om⟩,h.bd⟩
def Mc.neg{row:Nat}(h:Mc n m row c j A0 A)(e:Bd N m K A)(f:c<m):Mc n m row c j A0 (l8 A c)/\Bd N m K (l8 A c):=by
 refine⟨⟨h.lat.trans (Nl A f),fun r k a=>?_,fun r k b a d=>?_,fun k g i=>?_⟩,fun r k b a=>?_⟩
 .simp only[l8];rw[af om];exact h.left r k a
 .simp only[l8];have l:=h.low r c b om om;split
  .omega
  .exact h.low r k b a d
 .simp only[l8];rw[af om];exact h.done k g i
 .simp only[l8];have l:=e r c b f;split
  .omega
  .exact e r k b a
def G7(d:xO m i A)(f:i<=m){x c:iB}(g:∀r,r<i->x r=ay m (fun j=>A r j*c j))(h:∀r,r<i->x r=0):∀j,j<i->c j=0:=by
 intro j
 induction j using Nat.strongRecOn with
 | _ j ih =>
  intro b;have e:=g j b;rw[h j b,dr j om (fun k l n=>by
   rcases aC k j with a|a
   .rw[ih k a om];simp
   .rw[(d j b).1 k om l];simp)]at e
  rcases jI.1 e.symm with a|a
  .have:=(d j b).2;omega
  .exact a
structure Kf(n m N K i:Nat)(A0 A:aI):Prop where
 lat:qo n m A0 A
 tri:xO m i A
 red:∀r j,r<i->j<r->0<=A r j/\A r j<A r r
 bd:Bd N m (gg K m i) A
def Kf.ga(h:Kf n m N K i A0 A):Mc n m i i (i+1) A A :=
 ⟨qo.refl n m A,fun _ _ _=>rfl,fun r k b c a=>(h.tri r b).1 k om a,fun k d e=>om⟩
def Kf.piv(h:Kf n m N K i A0 A)(d:Mc n m i i m A A1)(p:i<n)(q:n<=m)(s:∃M,M≠0/\fy n m A0 (gN M i))(z:0<=A1 i i):xO m (i+1) A1/\∀r j,r<i->j<r->0<=A1 r j/\A1 r j<A1 r r:=by
 have l:xO m i A1:=fun r a=>⟨fun j f b=>by
   rcases aC j i with g|g
   .rw[d.left r j g];exact(h.tri r a).1 j f b
   .exact d.low r j a g b,by rw[d.left r r a];exact(h.tri r a).2⟩
 have t:A1 i i≠0:=fun e=>by
  obtain⟨M,u,v⟩:=s;obtain⟨c,o⟩:=(h.lat.trans d.lat _).1 v;have w:=G7 l om (fun r a=>o r om) (fun r a=>by simp only[gN];rw[af om])
  have f:=o i p;rw[jh fun k x=>by
   rcases dY k i with b|b|b
   .rw[w k b];simp
   .rw[b,e];simp
   .rw[d.done k b x];simp]at f
  simp only[gN,aQ]at f;exact u f
 refine⟨fun r a=>?_,fun r j a y=>?_⟩
 .by_cases e:r=i
  .subst e;exact⟨fun j f b=>d.done j f b,om⟩
  .exact l r om
 .rw[d.left r j om,d.left r r a];exact h.red r j a y
structure Q7(n m N K b i s:Nat)(A0 A:aI):Prop where
 lat:qo n m A0 A
 tri:xO m (i+1) A
 red:∀r j,r<i->j<r->0<=A r j/\A r j<A r r
 now:∀j,j<s->0<=A i j/\A i j<A i i
 bd:∀r k,r<N->k<m->(A r k).natAbs<=if k<s then 2^(2*K+4)else 2^K
 rw:∀k,s<=k->k<=i->(A i k).natAbs<=2^b
def Q7.step{s:Nat}(h:Q7 n m N K b i s A0 A)(y:s<i)(d:i<m)(o:i<N):Q7 n m N K b i (s+1) A0 (kv A s i (A i s/A i i)):=by
 have p:=(h.tri i om).2;have z:∀r,r<i->A r i=0:=fun r a=>(h.tri r om).1 i a d;have keep:∀r k,r<i->kv A s i (A i s/A i i) r k=A r k:=fun r k a=>by
  simp only[kv];split
  .rename_i e;rw[z r a,e];simp
  .rfl
 have oth:∀r k,k≠s->kv A s i (A i s/A i i) r k=A r k:=fun r k l=>by simp[kv,l]
 refine⟨h.lat.trans (FD A om d om _),fun r a=>?_,fun r j a q=>?_,fun j q=>?_,fun r k a l=>?_,fun k f c=>by rw[oth i k om];exact h.rw k om c⟩
 .by_cases e:r=i
  .subst e;exact⟨fun j f c=>by rw[oth r j om];exact(h.tri r om).1 j f c,by rw[oth r r om];exact p⟩
  .refine⟨fun j f c=>?_,?_⟩
   .rw[keep r j om];exact(h.tri r a).1 j f c
   .rw[keep r r om];exact(h.tri r a).2
 .rw[keep r j a,keep r r a];exact h.red r j a q
 .rw[oth i i om];by_cases e:j=s
  .subst e;simp only[kv,aQ];have f:=aW (A i j) (om:A i i≠0)
   have c:=aV (A i j) p;have t:=dC (A i j) (A i i);rw[cX (A i i)]at t;omega
  .rw[oth i j e];exact h.now j om
 .by_cases e:k=s
  .subst e;rw[ai om];simp only[kv,aQ];have g:=h.bd r k a l;have u:=h.bd r i a d;have v:=h.bd i k o l;rw[af om]at g u v;have f:=rC (A r k) (A i k/A i i) (A r i);have c:=jD (A i k) (A i i);have t:=a9 (bQ c v) u;have x:=p12 K K;rw[(om:K+K+4=2*K+4)]at x
   have B:=FC (2^K);omega
  .rw[oth r k e];have g:=h.bd r k a l;by_cases w:k<s
   .rw[ai w]at g;rw[ai om];exact g
   .rw[af w]at g;rw[af om];exact g
def Kf.re(h:Kf n m N K i A0 A)(d:n<=N)(a:Mc n m i i m A A1)(f:Bd N m K' A1)(g:(A1 i i).natAbs<=2^gg K m i)(l:i<n)(b:n<=m)(o:∃M,M≠0/\fy n m A0 (gN M i))(p:0<=A1 i i):Q7 n m N K' (gg K m i) i 0 A0 A1:=by
 obtain⟨q,s⟩:=h.piv a l b o p;refine⟨h.lat.trans a.lat,q,s,fun j u=>om,fun r k t c=>by rw[af om];exact f r k t c,fun k _ c=>?_⟩
 by_cases e:k=i
 .rw[e];exact g
 .rw[a.left i k om];exact h.bd i k om om
def Q7.fin(h:Q7 n m N K' b i i A0 A)(f:(if i=0 then 1 else 2)*K'+4<=gg K m (i+1)):Kf n m N K (i+1) A0 A:=by
 refine⟨h.lat,h.tri,fun r j a c=>?_,fun r k a g=>?_⟩
 .by_cases e:r=i
  .subst e;exact h.now j c
  .exact h.red r j om c
 .have d:=h.bd r k a g;have l:=pn f;by_cases e:i=0
  .rw[af om]at d;have o:=pn (show K'<=(if i=0 then 1 else 2)*K'+4 by rw[ai e];omega)
   omega
  .rw[af e]at l;have o:=pn (om:K'<=2*K'+4)
   split at d<;>omega
def Kf.init(a:Bd N m K A):Kf n m N K 0 A A :=
 ⟨qo.refl n m A,fun r b=>om,fun r j b _=>om,a⟩
def Kf.cut(h:Kf n (n+1) N K n A0 A)(y:iB):fy n n A y↔fy n (n+1) A0 y:=by
 refine Iff.trans ?_ (h.lat y).symm;have z:∀r,r<n->A r n=0:=fun r d=>(h.tri r d).1 n d om;constructor
 .rintro⟨c,b⟩;exact⟨c,fun i a=>by rw[b i a];simp only[ay];rw[z i a];omega⟩
 .rintro⟨c,b⟩;exact⟨c,fun i a=>by rw[b i a];simp only[ay];rw[z i a];omega⟩



def KM(A:aI)(m k:Nat)(x:iB):Int:=ay m (fun j=>cQ A k (j+1) 0*x (k+(j+1)))
def Pd.qSt_eq(h:Pd A n)(t:n=k+(m+1))(x:iB):det (k+1) A*yg A n k x=(det (k+1) A*x k+KM A m k x)*(det (k+1) A*x k+KM A m k x)+det k A*yg A n (k+1) x:=by
 have e:∀i j,i<m->j<m->det (k+1) A*cQ A k (i+1) (j+1)=det k A*cQ A (k+1) i j+cQ A k (i+1) 0*cQ A k (j+1) 0:=fun i j c b=>h.stg_rec2 om om;have f:∀j,j<m->cQ A k 0 (j+1)=cQ A k (j+1) 0:=fun j b=>h.stg_sym k 0 (j+1) om om;have g:n-k=m+1:=om
 have l:n-(k+1)=m:=om
 obtain⟨L,a⟩:∃L,L=KM A m k x:=⟨_,rfl⟩;obtain⟨Q,d⟩:∃Q,Q=ay m (fun i=>(ay m fun j=>cQ A k (i+1) (j+1)*x (k+(j+1)))*x (k+(i+1))):=⟨_,rfl⟩;rw[<-a];unfold KM at a;have o:yg A n k x=det (k+1) A*x k*x k+L*x k+(x k*L+Q):=by
  unfold yg;rw[g,iE];have p:(ay (m+1) fun j=>cQ A k 0 j*x (k+j))=det (k+1) A*x k+L:=by
   rw[iE,df,a];congr 1;exact aE fun j b=>by rw[f j b]
  have q:ay m (fun i=>(ay (m+1) fun j=>cQ A k (i+1) j*x (k+j))*x (k+(i+1)))=x k*L+Q:=by
   rw[a,d,<-cR,<-eD];refine aE fun i _=>?_;rw[iE,cF]
   grind
  rw[p,q,yS];rfl
 have r:det (k+1) A*Q=det k A*yg A n (k+1) x+L*L:=by
  unfold yg;rw[l,d,<-cR,<-cR];have s:L*L=ay m (fun i=>L*(cQ A k (i+1) 0*x (k+(i+1)))):=by rw[cR,<-a]
  rw[s,<-eD];refine aE fun i c=>?_;have u:det (k+1) A*(ay m fun j=>cQ A k (i+1) (j+1)*x (k+(j+1)))=det k A*(ay m fun j=>cQ A (k+1) i j*x (k+1+j))+cQ A k (i+1) 0*L:=by
   rw[a,<-cR,<-cR,<-cR,<-eD];refine aE fun j b=>?_;have:=e i j c b;rw[(om:k+1+j=k+(j+1))]
   grind
  rw[(om:k+1+i=k+(i+1))]
  grind
 rw[o];grind
def Pd.qSt_nn(h:Pd A n)(x:iB):∀m k,k+m=n->0<=yg A n k x
 | 0,k,a=>by
  unfold yg;rw[(om:n-k=0)]
  exact o5 _
 | m+1,k,a=>by
  have e:=h.qSt_eq (k:=k) (m:=m) a.symm x;have b:=cK (ck (h.pos k om)) (h.qSt_nn x m (k+1) om);have c:=kw (det (k+1) A*x k+KM A m k x);exact Int.nonneg_of_mul_nonneg_right om (h.pos (k+1) om)
def Nz(m:Nat)(c y:Nat->Int)(h:∀j,j<m->2*((c j).natAbs:Int)<=D)(a:0<=D):2*((ay m (fun j=>c j*y j)).natAbs:Int)<=D*ay m (fun j=>((y j).natAbs:Int)):=by
 induction m with
 | zero=>simp[ay]
 | succ m ih =>
  have b:=ih fun j d=>h j om;have e:=ca (h m om) (om:0<=((y m).natAbs:Int))
  have f:((c m*y m).natAbs:Int)=(c m).natAbs*(y m).natAbs:=by rw[cJ,bD]
  simp only[ay];rw[IX];have g:2*((c m).natAbs:Int)*(y m).natAbs=2*((c m).natAbs*(y m).natAbs):=by grind
  omega
def GK.coords(h:GK R n){x:iB}{Y:Int}(c:0<=Y)(l:64000*lv n R x x<=Y*Y):∀m k,k+m=n ->
  2^m*ay m (fun j=>((x (k+j)).natAbs:Int))<=2*Y*(3^m-2^m)
 | 0,k,d=>by simp[ay]
 | m+1,k,d=>by
  have ih:=h.coords c l m (k+1) om;have o:=h.pd.pos k om;have b:=h.pd.pos (k+1) om;have e:=h.pd.qSt_eq (k:=k) (m:=m) d.symm x;have z:=cK (ck o) (h.pd.qSt_nn x m (k+1) om);have p:=h.pd.qSt_le x k om;rw[zO]at p;have q:0<=lv n R x x:=by rw[<-zO];exact h.pd.qSt_nn x n 0 om
  have A:=ca (h.lead k om) q;obtain⟨L,f⟩:∃L,L=KM R m k x:=⟨_,rfl⟩;have g:2*(L.natAbs:Int)<=det (k+1) R*ay m (fun j=>((x (k+1+j)).natAbs:Int)):=by
   rw[f,show(fun j=>((x (k+1+j)).natAbs:Int))=fun j=>((x (k+(j+1))).natAbs:Int) by funext j;rw[(om:k+1+j=k+(j+1))]]
   refine Nz m _ _ (fun j B=>?_) om;have:=h.rows.1 (k+(j+1)) om k om;unfold iF kK at this
   rwa [(om:k+(j+1)-k=j+1)]at this
  rw[<-f]at e;obtain⟨D,r⟩:∃D,D=det (k+1) R:=⟨_,rfl⟩;rw[<-r]at e g b;have s:(D*x k+L)*(D*x k+L)<=(D*Y)*(D*Y):=by
   have t:=bV (om:yg R n k x<=Y*Y) (ck b)
   have v:=ca (show D<=D*D by have:=bV (om:1<=D) (ck b);omega) (cK c c)
   have C:(D*Y)*(D*Y)=D*D*(Y*Y):=by grind
   omega
  have E:=vM (cK (ck b) c) s;have F:((D*x k).natAbs:Int)=D*(x k).natAbs:=by rw[cJ,bD,Int.natAbs_of_nonneg om]
  obtain⟨T,i⟩:∃T,T=ay m (fun j=>((x (k+1+j)).natAbs:Int)):=⟨_,rfl⟩;rw[<-i]at g ih;have y:2*((x k).natAbs:Int)<=2*Y+T:=by
   refine ix (a:=D) ?_ b;have t:D*(2*((x k).natAbs:Int))=2*(D*(x k).natAbs):=by grind
   have v:D*(2*Y+T)=2*(D*Y)+D*T:=by grind
   omega
  rw[iE,cF,show ay m (fun j=>((x (k+(j+1))).natAbs:Int))=T by rw[i];exact aE fun j _=>by rw[(om:k+1+j=k+(j+1))]]
  have G:=bV y (show 0<=(2:Int)^m by exact ck (Int.pow_pos om))
  rw[fE,fE];generalize (2:Int)^m=u at *;generalize (3:Int)^m=w at *
  grind
def Df(f:Nat->Int)(a:∀j,0<=f j){j:Nat}(b:j<m):f j<=ay m f:=by
 induction m with
 | zero=>omega
 | succ m ih =>
  simp only[ay];have c:0<=ay m f:=by
   clear ih b
   induction m with
   | zero=>exact o5 _
   | succ m ih=>simp only[ay];have:=a m;omega
  by_cases e:j=m
  .subst e;omega
  .have:=ih om;have:=a m;omega
def GK.coord8(h:GK R n)(c:n<=8){x:iB}(d:lv n R x x<=1128906250000000){j:Nat}(a:j<n):(x j).natAbs<=1099511627776:=by
 have b:=h.coords (x:=x) (Y:=8500000000) dc om n 0 om
 have e:=Df (fun j=>((x j).natAbs:Int)) (fun j=>om) a
 simp only[aD]at b;generalize ay n (fun j=>((x j).natAbs:Int))=T at *;rcases (om:n=0∨n=1∨n=2∨n=3∨n=4∨n=5∨n=6∨n=7∨n=8)with rfl|rfl|rfl|rfl|rfl|rfl|rfl|rfl|rfl<;>omega

noncomputable section
inductive XV where
 | int (k:IntKind) (n:Int)
 | bool (b:Bool)
 | big (z:Int)
 | nil
 | sl (es i off len:Nat)
 | ptr (es i k:Nat)
 | lst (es:Nat) (l:List XV)
 | pat (es:Nat) (x:XV)
 | tup (l:List XV)
 | agg (l:List XV)
 | fn (f:Nat) (l:List XV)
 | any
 | nfn
 | mfn (f:Nat) (l:List XV)
abbrev Ph:=Nat->Option Nat
variable{φ:Ph}
def Ph.le(φ ψ:Ph):Prop:=∀i b,φ i=some b->ψ i=some b
def Ph.set(φ:Ph)(i b:Nat):Ph:=fun k=>if k=i then some b else φ k
def Ph.le_refl(φ:Ph):φ.le φ:=fun _ _ h=>h
def Ph.le_trans{ψ χ:Ph}(h:φ.le ψ)(k:ψ.le χ):φ.le χ:=fun i b e=>k i b (h i b e)
def Ph.le_set(h:φ i=ab):φ.le (φ.set i b):=fun k c e=>by
 unfold Ph.set;by_cases ek:k=i
 .subst ek;rw[h]at e;cases e
 .rw[af ek];exact e
mutual
def ER(φ:Ph):XV->AV->Prop
 | .int k n,a=>a=.int k n
 | .bool b,a=>a=.bool b
 | .big z,a=>a=.big z
 | .nil,a=>a=.nil
 | .sl es i off len,a=>∃b,φ i=some b/\a=.sl es b off len
 | .ptr es i k,a=>∃b,φ i=some b/\a=.ptr es b k
 | .lst es l,a=>∃g,a=.lst es l.length g/\lM φ l g 0
 | .pat es x,a=>∃y,a=.pat es y/\ER φ x y
 | .tup l,a=>∃r,a=.tup r/\fD φ l r
 | .agg l,a=>∃r,a=.agg r/\fD φ l r
 | .fn f l,a=>∃r,a=.fn f r/\fD φ l r
 | .any,_=>True
 | .nfn,a=>a=.nfn
 | .mfn f l,a=>∃r,a=.mfn f r/\fD φ l r
def fD(φ:Ph):List XV->List AV->Prop
 | [],[]=>True
 | x::l,a::r=>ER φ x a/\fD φ l r
 | [],_::_=>False
 | _::_,[]=>False
def lM(φ:Ph):List XV->(Nat->AV)->Nat->Prop
 | [],_,_=>True
 | x::l,g,k=>ER φ x (g k)/\lM φ l g (k+1)
end
mutual
theorem ER.mono{φ ψ:Ph}(h:φ.le ψ):∀(x:XV) (a:AV),ER φ x a->ER ψ x a
 | .int ..,_,e=>by simpa [ER]using e
 | .bool _,_,e=>by simpa [ER]using e
 | .big _,_,e=>by simpa [ER]using e
 | .nil,_,e=>by simpa [ER]using e
 | .sl ..,_,e=>by
  simp only[ER]at e ⊢;obtain⟨b,c,d⟩:=e;exact⟨b,h _ _ c,d⟩
 | .ptr ..,_,e=>by
  simp only[ER]at e ⊢;obtain⟨b,c,d⟩:=e;exact⟨b,h _ _ c,d⟩
 | .lst _ l,_,e=>by
  simp only[ER]at e ⊢;obtain⟨g,c,d⟩:=e;exact⟨g,c,lM.mono h l g 0 d⟩
 | .pat _ x,_,e=>by
  simp only[ER]at e ⊢;obtain⟨y,c,d⟩:=e;exact⟨y,c,ER.mono h x y d⟩
 | .tup l,_,e=>by
  simp only[ER]at e ⊢;obtain⟨r,c,d⟩:=e;exact⟨r,c,fD.mono h l r d⟩
 | .agg l,_,e=>by
  simp only[ER]at e ⊢;obtain⟨r,c,d⟩:=e;exact⟨r,c,fD.mono h l r d⟩
 | .fn _ l,_,e=>by
  simp only[ER]at e ⊢;obtain⟨r,c,d⟩:=e;exact⟨r,c,fD.mono h l r d⟩
 | .any,_,_=>by simp[ER]
 | .nfn,_,e=>by simpa [ER]using e
 | .mfn _ l,_,e=>by
  simp only[ER]at e ⊢;obtain⟨r,c,d⟩:=e;exact⟨r,c,fD.mono h l r d⟩
theorem fD.mono{φ ψ:Ph}(h:φ.le ψ):∀(l:List XV) (r:List AV),fD φ l r->fD ψ l r
 | [],[],_=>by simp[fD]
 | x::l,a::r,e=>by simp only[fD]at e ⊢;exact⟨ER.mono h x a e.1,fD.mono h l r e.2⟩
 | [],_::_,e=>by simp[fD]at e
 | _::_,[],e=>by simp[fD]at e
theorem lM.mono{φ ψ:Ph}(h:φ.le ψ):∀(l:List XV) (g:Nat->AV) (k:Nat),lM φ l g k->lM ψ l g k
 | [],_,_,_=>by simp[lM]
 | x::l,g,k,e=>by simp only[lM]at e ⊢;exact⟨ER.mono h x _ e.1,lM.mono h l g (k+1) e.2⟩
end
theorem fD.length{φ:Ph}:∀{l:List XV} {r:List AV},fD φ l r->r.length=l.length
 | [],[],_=>rfl
 | _::_,_::_,e=>by simp only[fD]at e;simp[fD.length e.2]
 | [],_::_,e=>by simp[fD]at e
 | _::_,[],e=>by simp[fD]at e
theorem fD.get{φ:Ph}:∀{l:List XV} {r:List AV} {j:Nat} {x:XV},fD φ l r->l[j]? = some x->∃a,r[j]? = some a/\ER φ x a
 | x::l,a::r,0,y,e,h=>by
  simp only[fD]at e;simp only[c8,eU]at h;subst h;exact⟨a,rfl,e.1⟩
 | x::l,a::r,j+1,y,e,h=>by
  simp only[fD]at e;rw[ci]at h ⊢;exact fD.get e.2 h
 | [],_,_,_,_,h=>by simp at h
 | _::_,[],_,_,e,_=>by simp[fD]at e
theorem lM.get{φ:Ph}:∀{l:List XV} {g:Nat->AV} {k j:Nat} {x:XV},lM φ l g k->l[j]? = some x->ER φ x (g (k+j))
 | x::l,g,k,0,y,e,h=>by
  simp only[lM]at e;simp only[c8,eU]at h;subst h;exact e.1
 | x::l,g,k,j+1,y,e,h=>by
  simp only[lM]at e;rw[ci]at h;have:=lM.get e.2 h
  rwa [(om:k+1+j=k+(j+1))]at this
 | [],_,_,_,_,_,h=>by simp at h
theorem lM.of{φ:Ph}:∀{l:List XV} {g:Nat->AV} {k:Nat},(∀j x,l[j]? = some x->ER φ x (g (k+j)))->lM φ l g k
 | [],_,_,_=>by simp[lM]
 | x::l,g,k,h=>by
  simp only[lM];refine⟨h 0 x rfl,lM.of fun j y a=>?_⟩;have:=h (j+1) y (by rw[ci];exact a)
  rwa [(om:k+(j+1)=k+1+j)]at this
theorem fD.of{φ:Ph}:∀{l:List XV} {r:List AV},r.length=l.length->(∀(j:Nat) (x:XV) (a:AV),l[j]? = some x->r[j]? = some a->ER φ x a)->fD φ l r
 | [],[],_,_=>by simp[fD]
 | x::l,a::r,e,h=>by
  simp only[fD];exact⟨h 0 x a rfl rfl,fD.of (by simpa using e) fun j y b c d=>h (j+1) y b (by simpa using c) (by simpa using d)⟩
 | [],_::_,e,_=>by simp at e
 | _::_,[],e,_=>by simp at e
theorem fD.append{φ:Ph}:∀{l m:List XV} {r s:List AV},fD φ l r->fD φ m s->fD φ (l++m) (r++s)
 | [],_,[],_,_,h=>h
 | _::_,_,_::_,_,e,h=>by simp only[fD,lO]at e ⊢;exact⟨e.1,fD.append e.2 h⟩
 | [],_,_::_,_,e,_=>by simp[fD]at e
 | _::_,_,[],_,e,_=>by simp[fD]at e
structure EB where
 ty:Nat
 es:Nat
 l:List XV
inductive EL where
 | e
 | d
 | n (x:Option (Option EB)) (l r:EL)
variable{l:EL}
def eL(s:EL):Nat->Option (Option EB):=EL.rec (motive:=fun _=>Nat->Option (Option EB)) (fun _=>ab) (fun _=>some ab) (fun x _ _ a b t=>Bool.rec (Bool.rec (b (Nat.sub (qM t 2) 1)) (a (qM t 2)) (ap (Nat.mod t 2) 1)) x (ap t 0)) s
def sB(b:EL)(o:Option (Option EB))(x:Option EB)(fuel:Nat):Nat->EL:=Nat.rec (motive:=fun _=>Nat->EL) (fun _=>b) (fun _ ih t=>Bool.rec (Bool.rec (.n o b (ih (Nat.sub (qM t 2) 1))) (.n o (ih (qM t 2)) b) (ap (Nat.mod t 2) 1)) (.n (some x) b b) (ap t 0)) fuel
def sC(s:EL)(i:Nat)(x:Option EB):EL:=EL.rec (motive:=fun _=>Nat->EL) (fun t=>sB .e ab x (Nat.succ t) t) (fun t=>sB .d (some ab) x (Nat.succ t) t) (fun y l r a b t=>Bool.rec (Bool.rec (.n y l (b (Nat.sub (qM t 2) 1))) (.n y (a (qM t 2)) r) (ap (Nat.mod t 2) 1)) (.n (some x) l r) (ap t 0)) s i
def yh(a b:α)(p q:Nat):Bool.rec (motive:=fun _=>α) a b (ap p q)=if p=q then b else a:=by
 by_cases h:p=q
 .subst h;rw[ai rfl,Nat.beq_refl]
 .rw[af h]
  cases e:ap p q with
  | true=>exact absurd (ak e) h
  | false=>rfl
def z6(i:Nat):eL .e i=ab:=rfl
def Ia(i:Nat):eL .d i=some ab:=rfl
def jY(x:Option (Option EB))(l r:EL)(t:Nat):eL (.n x l r) t=if t=0 then x else if t%2=1 then eL l (t/2)else eL r (t/2-1):=by
 show Bool.rec (motive:=fun _=>Option (Option EB)) (Bool.rec (motive:=fun _=>Option (Option EB)) (eL r (t/2-1)) (eL l (t/2)) (ap (t%2) 1)) x (ap t 0)=_;rw[yh,yh]
def PK(b:EL)(o:Option (Option EB))(x:Option EB)(f t:Nat):sB b o x (f+1) t=if t=0 then .n (some x) b b else if t%2=1 then .n o (sB b o x f (t/2)) b else .n o b (sB b o x f (t/2-1)):=by
 show Bool.rec (motive:=fun _=>EL) (Bool.rec (motive:=fun _=>EL) (.n o b (sB b o x f (t/2-1))) (.n o (sB b o x f (t/2)) b) (ap (t%2) 1)) (.n (some x) b b) (ap t 0)=_;rw[yh,yh]
def ins_e(i:Nat)(x:Option EB):sC .e i x=sB .e ab x (i+1) i:=rfl
def ins_d(i:Nat)(x:Option EB):sC .d i x=sB .d (some ab) x (i+1) i:=rfl
def ins_n(y:Option (Option EB))(l r:EL)(t:Nat)(x:Option EB):sC (.n y l r) t x=if t=0 then .n (some x) l r else if t%2=1 then .n y (sC l (t/2) x) r else .n y l (sC r (t/2-1) x):=by
 show Bool.rec (motive:=fun _=>EL) (Bool.rec (motive:=fun _=>EL) (.n y l (sC r (t/2-1) x)) (.n y (sC l (t/2) x) r) (ap (t%2) 1)) (.n (some x) l r) (ap t 0)=_;rw[yh,yh]
def Tr(h:i≠j):ap i j=false:=by
 cases e:ap i j with
 | true=>exact absurd (ak e) h
 | false=>rfl
def yH{t:Nat}(a:t≠0)(b:j≠0)(h:j≠t):(t%2=1->j%2=1->j/2≠t/2)/\(t%2≠1->j%2≠1->j/2-1≠t/2-1):=by
 constructor<;>intro c d<;>omega
theorem l9{b:EL}{o:Option (Option EB)}(a:∀j,eL b j=o){x:Option EB}:∀(f t:Nat),t<f->∀j,eL (sB b o x f t) j=if j=t then some x else o
 | 0,t,h,_=>om
 | f+1,t,h,j=>by
  rw[PK];by_cases c:t=0
  .subst c;rw[ai rfl,jY,a,a];by_cases e:j=0
   .rw[ai e,ai e]
   .rw[af e,af e];split<;>rfl
  .rw[af c];by_cases g:j=0
   .subst g;rw[af (show ¬(0=t)from fun e=>c e.symm)];split<;>rw[jY,ai rfl]
   .by_cases e:j=t
    .subst e;rw[ai rfl];split
     .rename_i d;rw[jY,af c,ai d,l9 a f _ om,ai rfl]
     .rename_i d;rw[jY,af c,af d,l9 a f _ om,ai rfl]
    .obtain⟨d,l⟩:=yH c g e;rw[af e];split
     .rename_i i;rw[jY,af g,a];split
      .rename_i k;rw[l9 a f _ om,af (d i k)]
      .rfl
     .rename_i i;rw[jY,af g,a];split
      .rfl
      .rename_i k;rw[l9 a f _ om,af (l i k)]
theorem fQ:∀(l:EL) (i:Nat) (x:Option EB) (j:Nat),eL (sC l i x) j=if j=i then some x else eL l j
 | .e,i,x,j=>by rw[ins_e,l9 z6 _ _ om,z6]
 | .d,i,x,j=>by rw[ins_d,l9 Ia _ _ om,Ia]
 | .n y l r,t,x,j=>by
  rw[ins_n];by_cases a:t=0
  .subst a;rw[ai rfl,jY,jY];by_cases e:j=0
   .rw[ai e,ai e]
   .rw[af e,af e,af e]
  .rw[af a];by_cases b:j=0
   .subst b;rw[af (show ¬(0=t)from fun e=>a e.symm),jY,ai rfl];split<;>rw[jY,ai rfl]
   .by_cases e:j=t
    .subst e;rw[ai rfl];split
     .rename_i c;rw[jY,af a,ai c,fQ,ai rfl]
     .rename_i c;rw[jY,af a,af c,fQ,ai rfl]
    .obtain⟨c,h⟩:=yH a b e;rw[af e];split
     .rename_i f;rw[jY,jY,af b,af b];split
      .rename_i g;rw[fQ,af (c f g)]
      .rfl
     .rename_i f;rw[jY,jY,af b,af b];split
      .rfl
      .rename_i g;rw[fQ,af (h f g)]
structure MR(φ:Ph)(l:EL)(S:St):Prop where
 dom:∀i,eL l i=ab->φ i=ab
 live:∀i X,eL l i=some (some X)->∃b g,φ i=some b/\S b=some ⟨X.ty,X.es,X.l.length,g⟩/\lM φ X.l g 0
 inj:∀i j X Y b,eL l i=some (some X)->eL l j=some (some Y)->φ i=some b->φ j=some b->i=j
def MR.new(h:MR φ l S){nx b:Nat}(r:eL l nx=ab)(p:S b=ab){ty es:Nat}{L:List XV}{g:Nat->AV}(s:lM φ L g 0){n:Nat}(t:n=L.length) :
  φ.le (φ.set nx b)/\MR (φ.set nx b) (sC l nx (some ⟨ty,es,L⟩)) (S.upd b ⟨ty,es,n,g⟩):=by
 subst t;have d:φ.le (φ.set nx b):=Ph.le_set (h.dom nx r);refine⟨d,fun i a=>?_,fun i X a=>?_,fun i j X Y c a m ei ej=>?_⟩
 .rw[fQ]at a;by_cases e:i=nx
  .rw[ai e]at a;cases a
  .rw[af e]at a;unfold Ph.set;rw[af e];exact h.dom i a
 .rw[fQ]at a;by_cases e:i=nx
  .rw[ai e]at a;cases a;exact⟨b,g,by unfold Ph.set;rw[ai e],cn,s.mono d⟩
  .rw[af e]at a;obtain⟨c,g',o,k,q⟩:=h.live i X a;refine⟨c,g',d _ _ o,?_,q.mono d⟩;rw[aO (fun f=>by subst f;rw[p]at k;cases k)];exact k
 .rw[fQ]at a m;have key:∀i X,i≠nx->eL l i=some (some X)->φ.set nx b i=some b->False:=fun i X e a ei=>by
   unfold Ph.set at ei;rw[af e]at ei;obtain⟨c,g',o,k,q⟩:=h.live i X a;rw[ei]at o;cases o;rw[p]at k;cases k
  by_cases e:i=nx
  .by_cases f:j=nx
   .omega
   .rw[af f]at m;have:c=b:=by unfold Ph.set at ei;rw[ai e]at ei;cases ei;rfl
    subst this;exact(key j Y f m ej).elim
  .rw[af e]at a;by_cases f:j=nx
   .have:c=b:=by unfold Ph.set at ej;rw[ai f]at ej;cases ej;rfl
    subst this;exact(key i X e a ei).elim
   .rw[af f]at m;unfold Ph.set at ei ej;rw[af e]at ei;rw[af f]at ej;exact h.inj i j X Y c a m ei ej
def MR.put(h:MR φ l S){i b:Nat}{X:EB}(f:eL l i=some (some X))(p:φ i=some b){L:List XV}{g:Nat->AV}(q:lM φ L g 0){n:Nat}(r:n=L.length) :
  MR φ (sC l i (some ⟨X.ty,X.es,L⟩)) (S.upd b ⟨X.ty,X.es,n,g⟩):=by
 subst r;refine⟨fun j a=>?_,fun j Y a=>?_,fun j k Y Z c a m ej ek=>?_⟩
 .rw[fQ]at a;by_cases e:j=i
  .rw[ai e]at a;cases a
  .rw[af e]at a;exact h.dom j a
 .rw[fQ]at a;by_cases e:j=i
  .rw[ai e]at a;cases a;subst e;exact⟨b,g,p,cn,q⟩
  .rw[af e]at a;obtain⟨c,g',d,o,s⟩:=h.live j Y a;refine⟨c,g',d,?_,s⟩;rw[aO (fun t=>by subst t;exact e (h.inj j i Y X _ a f d p))];exact o
 .rw[fQ]at a m;have ej':∃Y',eL l j=some (some Y'):=by
   by_cases e:j=i
   .subst e;exact⟨X,f⟩
   .rw[af e]at a;exact⟨Y,a⟩
  have ek':∃Y',eL l k=some (some Y'):=by
   by_cases e:k=i
   .subst e;exact⟨X,f⟩
   .rw[af e]at m;exact⟨Z,m⟩
  obtain⟨Y',d⟩:=ej';obtain⟨Z',o⟩:=ek';exact h.inj j k Y' Z' c d o ej ek
def MR.move(h:MR φ l S){i b nx b':Nat}{X:EB}(t:eL l i=some (some X))(w:φ i=some b)(u:eL l nx=ab)(o:b'=b∨S b'=ab){ty es:Nat}{L:List XV}{g:Nat->AV}(x:lM φ L g 0){n:Nat}(y:n=L.length) :
  φ.le (φ.set nx b')/\MR (φ.set nx b') (sC (sC l i ab) nx (some ⟨ty,es,L⟩)) ((S.del b).upd b' ⟨ty,es,n,g⟩):=by
 subst y;have f:φ.le (φ.set nx b'):=Ph.le_set (h.dom nx u);have z:i≠nx:=fun e=>by subst e;rw[t]at u;cases u
 have key:∀j Y,eL (sC l i ab) j=some (some Y)->j≠i/\eL l j=some (some Y):=fun j Y a=>by
  rw[fQ]at a;by_cases e:j=i
  .rw[ai e]at a;cases a
  .rw[af e]at a;exact⟨e,a⟩
 have keyb:∀j Y,j≠i->eL l j=some (some Y)->φ j≠some b':=fun j Y e a ej=>by
  rcases o with rfl|o
  .exact e (h.inj j i Y X _ a t ej w)
  .obtain⟨c,g',q,s,_⟩:=h.live j Y a;rw[ej]at q;cases q;rw[o]at s;cases s
 refine⟨f,fun j a=>?_,fun j Y a=>?_,fun j k Y Z c a m ej ek=>?_⟩
 .rw[fQ]at a;by_cases e:j=nx
  .rw[ai e]at a;cases a
  .rw[af e,fQ]at a;by_cases d:j=i
   .rw[ai d]at a;cases a
   .rw[af d]at a;unfold Ph.set;rw[af e];exact h.dom j a
 .rw[fQ]at a;by_cases e:j=nx
  .rw[ai e]at a;cases a;exact⟨b',g,by unfold Ph.set;rw[ai e],cn,x.mono f⟩
  .rw[af e]at a;obtain⟨d,a⟩:=key j Y a;obtain⟨c,g',q,s,A⟩:=h.live j Y a;have v:c≠b:=fun p=>by subst p;exact d (h.inj j i Y X _ a t q w)
   have r:c≠b':=fun p=>by subst p;exact keyb j Y d a q
   refine⟨c,g',f _ _ q,?_,A.mono f⟩;rw[aO r];unfold St.del;rw[af v];exact s
 .rw[fQ]at a m;by_cases e:j=nx
  .by_cases d:k=nx
   .omega
   .rw[af d]at m;obtain⟨p,m⟩:=key k Z m;have:c=b':=by unfold Ph.set at ej;rw[ai e]at ej;cases ej;rfl
    subst this;unfold Ph.set at ek;rw[af d]at ek;exact(keyb k Z p m ek).elim
  .rw[af e]at a;obtain⟨p,a⟩:=key j Y a;unfold Ph.set at ej;rw[af e]at ej;by_cases d:k=nx
   .have:c=b':=by unfold Ph.set at ek;rw[ai d]at ek;cases ek;rfl
    subst this;exact(keyb j Y p a ej).elim
   .rw[af d]at m;obtain⟨B,m⟩:=key k Z m;unfold Ph.set at ek;rw[af d]at ek;exact h.inj j k Y Z c a m ej ek
end

noncomputable section
inductive TE where
 | e
 | n (x:XV) (l r:TE)
def jW(s:TE):Nat->XV:=TE.rec (motive:=fun _=>Nat->XV) (fun _=>.any) (fun x _ _ a b t=>Bool.rec (Bool.rec (b (Nat.sub (qM t 2) 1)) (a (qM t 2)) (ap (Nat.mod t 2) 1)) x (ap t 0)) s
def xf(v:XV)(fuel:Nat):Nat->TE:=Nat.rec (motive:=fun _=>Nat->TE) (fun _=>.e) (fun _ ih t=>Bool.rec (Bool.rec (.n .any .e (ih (Nat.sub (qM t 2) 1))) (.n .any (ih (qM t 2)) .e) (ap (Nat.mod t 2) 1)) (.n v .e .e) (ap t 0)) fuel
def zt(s:TE)(i:Nat)(v:XV):TE:=TE.rec (motive:=fun _=>Nat->TE) (fun t=>xf v (Nat.succ t) t) (fun y l r a b t=>Bool.rec (Bool.rec (.n y l (b (Nat.sub (qM t 2) 1))) (.n y (a (qM t 2)) r) (ap (Nat.mod t 2) 1)) (.n v l r) (ap t 0)) s i
def sO(t:Nat):jW .e t=.any:=rfl
def kI(x:XV)(l r:TE)(t:Nat):jW (.n x l r) t=if t=0 then x else if t%2=1 then jW l (t/2)else jW r (t/2-1):=by
 show Bool.rec (motive:=fun _=>XV) (Bool.rec (motive:=fun _=>XV) (jW r (t/2-1)) (jW l (t/2)) (ap (t%2) 1)) x (ap t 0)=_;rw[yh,yh]
def O4(v:XV)(f t:Nat):xf v (f+1) t=if t=0 then .n v .e .e else if t%2=1 then .n .any (xf v f (t/2)) .e else .n .any .e (xf v f (t/2-1)):=by
 show Bool.rec (motive:=fun _=>TE) (Bool.rec (motive:=fun _=>TE) (.n .any .e (xf v f (t/2-1))) (.n .any (xf v f (t/2)) .e) (ap (t%2) 1)) (.n v .e .e) (ap t 0)=_;rw[yh,yh]
def Sv(i:Nat)(v:XV):zt .e i v=xf v (i+1) i:=rfl
def Su(y:XV)(l r:TE)(t:Nat)(v:XV):zt (.n y l r) t v=if t=0 then .n v l r else if t%2=1 then .n y (zt l (t/2) v) r else .n y l (zt r (t/2-1) v):=by
 show Bool.rec (motive:=fun _=>TE) (Bool.rec (motive:=fun _=>TE) (.n y l (zt r (t/2-1) v)) (.n y (zt l (t/2) v) r) (ap (t%2) 1)) (.n v l r) (ap t 0)=_;rw[yh,yh]
theorem pc{v:XV}:∀(f t:Nat),t<f->∀j,jW (xf v f t) j=if j=t then v else .any
 | 0,t,h,_=>om
 | f+1,t,h,j=>by
  rw[O4];by_cases a:t=0
  .subst a;rw[ai rfl,kI,sO,sO];by_cases e:j=0
   .rw[ai e,ai e]
   .rw[af e,af e];split<;>rfl
  .rw[af a];by_cases c:j=0
   .subst c;rw[af (show ¬(0=t)from fun e=>a e.symm)];split<;>rw[kI,ai rfl]
   .by_cases e:j=t
    .subst e;rw[ai rfl];split
     .rename_i b;rw[kI,af a,ai b,pc f _ om,ai rfl]
     .rename_i b;rw[kI,af a,af b,pc f _ om,ai rfl]
    .obtain⟨b,i⟩:=yH a c e;rw[af e];split
     .rename_i d;rw[kI,af c,sO];split
      .rename_i g;rw[pc f _ om,af (b d g)]
      .rfl
     .rename_i d;rw[kI,af c,sO];split
      .rfl
      .rename_i g;rw[pc f _ om,af (i d g)]
theorem mD:∀(s:TE) (d:Nat) (v:XV) (t:Nat),jW (zt s d v) t=if t=d then v else jW s t
 | .e,i,v,j=>by rw[Sv,pc _ _ om,sO]
 | .n y l r,t,x,j=>by
  rw[Su];by_cases a:t=0
  .subst a;rw[ai rfl,kI,kI];by_cases e:j=0
   .rw[ai e,ai e]
   .rw[af e,af e,af e]
  .rw[af a];by_cases b:j=0
   .subst b;rw[af (show ¬(0=t)from fun e=>a e.symm),kI,ai rfl];split<;>rw[kI,ai rfl]
   .by_cases e:j=t
    .subst e;rw[ai rfl];split
     .rename_i c;rw[kI,af a,ai c,mD,ai rfl]
     .rename_i c;rw[kI,af a,af c,mD,ai rfl]
    .obtain⟨c,h⟩:=yH a b e;rw[af e];split
     .rename_i f;rw[kI,kI,af b,af b];split
      .rename_i g;rw[mD,af (c f g)]
      .rfl
     .rename_i f;rw[kI,kI,af b,af b];split
      .rfl
      .rename_i g;rw[mD,af (h f g)]
def ofL:List XV->Nat->TE->TE
 | [],_,s=>s
 | x::l,k,s=>ofL l (k+1) (zt s k x)
theorem JF:∀(l:List XV) (k:Nat) (s:TE) (t:Nat),jW (ofL l k s) t=if k<=t/\t<k+l.length then l.getD (t-k) .any else jW s t
 | [],k,s,t=>by simp only[ofL,fR];rw[af om]
 | x::l,k,s,t=>by
  simp only[ofL,cq];rw[JF l (k+1),mD];by_cases e:t=k
  .subst e;rw[af om,ai rfl,ai om,ct];rfl
  .rw[af e];by_cases h:k+1<=t/\t<k+1+l.length
   .rw[ai h,ai om,(om:t-k=(t-(k+1))+1)];rfl
   .rw[af h,af om]
def zV(l:List XV):TE:=ofL l 0 .e
def Hu(l:List XV)(t:Nat):jW (zV l) t=l.getD t .any:=by
 unfold zV;rw[JF,sO,aD,fq];by_cases h:t<l.length
 .rw[ai ⟨jM _,h⟩]
 .rw[af (fun e=>h e.2),ig,cH om];rfl
def TR(φ:Ph)(te:TE)(O:Tm):Prop:=∀t,ER φ (jW te t) (O t)
def TR.mono{φ ψ:Ph}{te:TE}{O:Tm}(h:TR φ te O)(a:φ.le ψ):TR ψ te O:=fun t=>(h t).mono a
def TR.put{φ:Ph}{te:TE}{O:Tm}(h:TR φ te O){d:Nat}{v:XV}{z:AV}(a:ER φ v z):TR φ (zt te d v) (O.put (some d) z):=fun t=>by
 rw[mD,Tm.put_eq];by_cases e:t=d
 .simp only[e,ai];exact a
 .simp only[e,aS];exact h t
def Tc:Value->XV
 | .int k n=>.int k n
 | .bool b=>.bool b
 | .slice ab 0 0=>.nil
 | _=>.any
def Qr(φ:Ph)(v:Value):ER φ (Tc v) (Rt v):=by
 unfold Tc;split
 .simp[ER,Rt]
 .simp[ER,Rt]
 .simp[ER,Rt]
 .simp[ER]
def k8(te:TE):Operand->XV
 | .tmp t=>jW te t
 | .const v=>Tc v
 | .global _=>.any
 | .func f=>.fn f []
def TR.ev{φ:Ph}{te:TE}{O:Tm}(h:TR φ te O)(x:Operand):ER φ (k8 te x) (ev O x):=by
 cases x with
 | tmp t=>exact h t
 | const v=>exact Qr φ v
 | global g=>simp[k8,ER]
 | func f=>simp only[k8,Go.Proofs.YtdobfmlmenaajaaGreatDoor.ev,ER];exact⟨[],rfl,by simp[fD]⟩
def TR.evL{φ:Ph}{te:TE}{O:Tm}(h:TR φ te O):∀l:List Operand,fD φ (l.map (k8 te)) (l.map (Go.Proofs.YtdobfmlmenaajaaGreatDoor.ev O))
 | []=>by simp[fD]
 | x::l=>by simp only[cU,fD];exact⟨h.ev x,h.evL l⟩
def nY:Nat->XV->Bool
 | 1,.int .u32 _=>false
 | 1,.int _ _=>true
 | 1,.bool _=>true
 | 1,.nil=>true
 | 1,.sl ..=>true
 | 1,.ptr ..=>true
 | 1,.lst ..=>true
 | 1,.pat ..=>true
 | 1,.fn ..=>true
 | 1,.nfn=>true
 | 1,.mfn ..=>true
 | 2,.big _=>true
 | _,_=>false
def lD{φ:Ph}{es:Nat}{x:XV}{a:AV}(h:nY es x=true)(c:ER φ x a):eF es a:=by
 unfold nY at h;split at h
 .cases h
 .rename_i k n d;simp only[ER]at c;subst c;simp only[eF];intro e;subst e;exact d rfl
 all_goals first
  | (simp only[ER]at c;subst c;trivial)
  | (simp only[ER]at c;obtain⟨b,_,rfl⟩:=c;trivial)
  | (simp only[ER]at c;obtain⟨b,rfl,_⟩:=c;trivial)
  | exact absurd h dc
def nV(es:Nat):List XV->Bool
 | []=>true
 | x::l=>nY es x&&nV es l
theorem pw{φ:Ph}{es:Nat}:∀{l:List XV} {r:List AV},nV es l=true->fD φ l r->∀z∈r,eF es z
 | [],[],_,_,z,c=>by cases c
 | x::l,a::r,h,b,z,c=>by
  simp only[nV,au]at h;simp only[fD]at b;rcases sJ.1 c with rfl|c
  .exact lD h.1 b.1
  .exact pw h.2 b.2 z c
 | [],_::_,_,b,_,_=>by simp[fD]at b
 | _::_,[],_,b,_,_=>by simp[fD]at b
theorem wt{φ:Ph}{es:Nat}:∀{l:List XV} {g:Nat->AV} {k:Nat},nV es l=true->lM φ l g k->∀j,j<l.length->eF es (g (k+j))
 | [],_,_,_,_,j,b=>absurd b sm
 | x::l,g,k,h,a,0,_=>by
  simp only[nV,au]at h;simp only[lM]at a;exact lD h.1 a.1
 | x::l,g,k,h,a,j+1,b=>by
  simp only[nV,au]at h;simp only[lM]at a;have:=wt h.2 a.2 j (by simpa using b)
  rwa [(om:k+1+j=k+(j+1))]at this
def fD.toG{φ:Ph}{l:List XV}{r:List AV}(h:fD φ l r):lM φ l (fun j=>r.getD j .any) 0:=lM.of fun j x b=>by
 obtain⟨a,c,d⟩:=h.get b;simp only[aD,cT,c,fW];exact d
abbrev XR:=Option (XV×Nat×EL)
abbrev eE:=Nat->List XV->Nat->EL->XR
def tU(nx:Nat)(l:EL)(X:EB)(v:XV):XR:=match eL l nx with
 | ab=>some (v,nx+1,sC l nx (some X))
 | some _=>ab
def XK(φ:Ph)(v:XV)(l:EL)(K:AV->St->Prop):Prop:=∀ψ z S,φ.le ψ->ER ψ v z->MR ψ l S->K z S
def pV{φ:Ph}{nx:Nat}{l:EL}{S:St}{ty es n:Nat}{L:List XV}{v:XV}{r:XV×Nat×EL}{g:Nat->AV}{K:AV->St->Prop}(h:tU nx l ⟨ty,es,L⟩ v=some r)(a:MR φ l S)(c:lM φ L g 0)(d:n=L.length)(e:XK φ r.1 r.2.2 K)
  {b:Nat} (f:S b=ab) {z:AV} (i:v=.ptr es nx 0/\z=.ptr es b 0∨v=.sl es nx 0 n/\z=.sl es b 0 n):K z (S.upd b ⟨ty,es,n,g⟩):=by
 unfold tU at h;split at h
 .rename_i j
  cases h
  obtain⟨k,m⟩:=a.new j f (ty:=ty) (es:=es) c d;refine e _ _ _ k ?_ m;rcases i with⟨rfl,rfl⟩|⟨rfl,rfl⟩
  .simp only[ER];exact⟨b,by unfold Ph.set;rw[ai rfl],rfl⟩
  .simp only[ER];exact⟨b,by unfold Ph.set;rw[ai rfl],rfl⟩
 .cases h
def zE:Nat->Option (Nat×XV)
 | 2=>some (1,.int .i64 0)
 | 3=>some (1,.int .i64 0)
 | 4=>some (1,.bool false)
 | 28=>some (1,.nil)
 | 29=>some (1,.nil)
 | 52=>some (1,.nil)
 | 59=>some (1,.nil)
 | 50=>some (2,.big 0)
 | _=>ab
def EQ{t es:Nat}{x:XV}(h:zE t=some (es,x)):∃a v,gG t=some (es,a,v)/\∀φ,ER φ x a:=by
 unfold zE at h;split at h<;>first|(cases h;exact⟨_,_,rfl,fun φ=>by simp[ER]⟩)|cases h
def zA:Nat->Option (Nat×List XV)
 | 167=>some (2,[.big 0,.big 0])
 | 197=>some (2,[.big 0,.big 0,.big 0,.big 0,.big 0,.big 0,.big 0])
 | 218=>some (1,[.nil,.int .i64 0])
 | 202=>some (1,[.int .u64 0,.int .u64 0])
 | _=>ab
def zh(t nx:Nat)(l:EL):XR:=match zE t with
 | some (es,x)=>tU nx l ⟨t,es,[x]⟩ (.ptr es nx 0)
 | ab=>match zA t with
  | some (es,L)=>tU nx l ⟨t,es,L⟩ (.ptr es nx 0)
  | ab=>ab
def Ks{φ:Ph}{t nx:Nat}{l:EL}{S:St}{r:XV×Nat×EL}{K:AV->St->Prop}(h:zh t nx l=some r)(f:MR φ l S)(g:XK φ r.1 r.2.2 K):mU t S K:=by
 unfold zh at h
 cases c:zE t with
 | some p =>
  obtain⟨es,x⟩:=p;rw[c]at h;obtain⟨a,v,i,j⟩:=EQ c;unfold mU;rw[i];exact fun b d=>pV h f (by simp only[lM];exact⟨j φ,trivial⟩) rfl g d (.inl ⟨rfl,rfl⟩)
 | none =>
  rw[c]at h;simp only at h;unfold zA at h;split at h
  .rename_i es L e;split at e<;>first
    | (cases e;exact fun b d=>pV h f (by simp[lM,ER]) rfl g d (.inl ⟨rfl,rfl⟩))
    | cases e
  .cases h
def Mr(t:Nat)(x:XV)(nx:Nat)(l:EL):XR:=match eY t with
 | some (es,k)=>match ap k 1 with
  | true=>match nY es x with
   | true=>tU nx l ⟨t,es,[x]⟩ (.ptr es nx 0)
   | false=>ab
  | false=>match x with
   | .agg L=>match ap L.length k&&nV es L with
    | true=>tU nx l ⟨t,es,L⟩ (.ptr es nx 0)
    | false=>ab
   | _=>ab
 | ab=>ab
def OZ{φ:Ph}{t nx:Nat}{x:XV}{a:AV}{l:EL}{S:St}{r:XV×Nat×EL}{K:AV->St->Prop}(h:Mr t x nx l=some r)(d:ER φ x a)(j:MR φ l S)(m:XK φ r.1 r.2.2 K):kq t a S K:=by
 unfold Mr at h;unfold kq
 cases n:eY t with
 | none=>rw[n]at h;cases h
 | some p =>
  obtain⟨es,k⟩:=p;rw[n]at h;simp only at h ⊢
  cases f:ap k 1 with
  | true =>
   rw[f]at h;rw[ai (ak f)];simp only at h;split at h
   .rename_i c;exact⟨lD c d,fun b g=>pV h j (by simp only[lM];exact⟨d,trivial⟩) rfl m g (.inl ⟨rfl,rfl⟩)⟩
   .cases h
  | false =>
   rw[f]at h;rw[af (fun e=>by subst e;simp at f)]
   simp only at h;split at h
   .rename_i L;simp only[ER]at d;obtain⟨R,rfl,i⟩:=d;split at h
    .rename_i c;simp only[au]at c;have e:=ak c.1;refine⟨by rw[i.length];exact e,pw c.2 i,fun b g=>?_⟩
     exact pV h j i.toG e.symm m g (.inl ⟨rfl,rfl⟩)
    .cases h
   .cases h
def wZ(t:Nat)(x:XV)(l:EL):Option XV:=match x with
 | .pat es y=>match eY t with
  | some (es',k)=>match ap es es'&&ap k 1 with
   | true=>some y
   | false=>ab
  | ab=>ab
 | .ptr es i k0=>match eL l i with
  | some (some X)=>match eY t with
   | some (es',k)=>match ap es' es&&ap X.es es&&jB (k0+k) X.l.length with
    | true=>match ap k 1 with
     | true=>X.l[k0]?
     | false=>some (.agg ((X.l.drop k0).take k))
    | false=>ab
   | ab=>ab
  | _=>ab
 | _=>ab
theorem Ce{g:Nat->AV}:∀(k i j:Nat),(eA g i k)[j]? = if j<k then some (g (i+j))else ab
 | 0,i,j=>by simp[eA]
 | k+1,i,0=>by simp[eA]
 | k+1,i,j+1=>by
  simp only[eA,ci,Ce k (i+1) j,Nat.add_lt_add_iff_right];rw[(om:i+1+j=i+(j+1))]
theorem Cd{g:Nat->AV}:∀(k i:Nat),(eA g i k).length=k
 | 0,_=>rfl
 | k+1,i=>by simp[eA,Cd k]
def EZ{φ:Ph}{t:Nat}{x v:XV}{a:AV}{l:EL}{S:St}{K:AV->Prop}(h:wZ t x l=some v)(d:ER φ x a)(u:MR φ l S)(o:∀z,ER φ v z->K z):pD t a S K:=by
 unfold wZ at h;split at h
 .rename_i es y;simp only[ER]at d;obtain⟨y',rfl,w⟩:=d;split at h
  .rename_i es' k p;split at h
   .rename_i c;simp only[au]at c
    cases h
    have m:=ak c.1;have q:=ak c.2;subst m q;exact⟨p,o _ w⟩
   .cases h
  .cases h
 .rename_i es i F;simp only[ER]at d;obtain⟨b,A,rfl⟩:=d;split at h
  .rename_i X B;obtain⟨b',g,m,q,s⟩:=u.live i X B;rw[A]at m;cases m;split at h
   .rename_i es' k p;split at h
    .rename_i c;simp only[au]at c;have C:=ak c.1.1;have D:=ak c.1.2;have E:=cu c.2;unfold pD;simp only[q,p];refine⟨C,D,E,?_⟩
     cases n:ap k 1 with
     | true =>
      rw[n]at h;have:=ak n;subst this;simp only at h;rw[ai rfl];have:=s.get h;rw[aD]at this;exact o _ this
     | false =>
      rw[n]at h;rw[af (fun e=>by subst e;simp at n)]
      cases h
      refine o _ ?_;simp only[ER];refine⟨_,rfl,fD.of (by simp[Cd];omega) fun j x a d f=>?_⟩
      rw[Ce]at f;by_cases r:j<k
      .rw[ai r]at f;cases f;rw[fv r,qP]at d;have:=s.get d
       rwa [aD]at this
      .rw[af r]at f;cases f
    .cases h
   .cases h
  .cases h
 .cases h
def xt:List XV->Nat->List XV->List XV
 | l,_,[]=>l
 | l,i,x::r=>xt (l.set i x) (i+1) r
theorem vP:∀(r l:List XV) (i:Nat),(xt l i r).length=l.length
 | [],_,_=>rfl
 | x::r,l,i=>by simp[xt,vP r]
theorem vQ:∀(r l:List XV) (i j:Nat),i+r.length<=l.length->(xt l i r)[j]? = if i<=j/\j<i+r.length then r[j-i]? else l[j]?
 | [],l,i,j,_=>by
  simp only[xt,fR,cF];rw[af om]
 | x::r,l,i,j,h=>by
  simp only[cq]at h;simp only[xt,vQ r (l.set i x) (i+1) j (by simp;omega),cq]
  by_cases e:j=i
  .subst e;rw[af om,ai om,R9 om,ct];rfl
  .by_cases a:i+1<=j/\j<i+1+r.length
   .rw[ai a,ai om,(om:j-i=j-(i+1)+1),ci]
   .rw[af a,af om,yQ om]
def GS(t:Nat)(x y:XV)(l:EL):Option EL:=match x with
 | .ptr es i k0=>match eL l i with
  | some (some X)=>match eY t with
   | some (es',k)=>match ap es' es&&ap X.es es&&jB (k0+k) X.l.length with
    | true=>match ap k 1 with
     | true=>match nY es y with
      | true=>some (sC l i (some ⟨X.ty,X.es,X.l.set k0 y⟩))
      | false=>ab
     | false=>match y with
      | .agg L=>match ap L.length k&&nV es L with
       | true=>some (sC l i (some ⟨X.ty,X.es,xt X.l k0 L⟩))
       | false=>ab
      | _=>ab
    | false=>ab
   | ab=>ab
  | _=>ab
 | _=>ab
def Ki{φ:Ph}{t:Nat}{x y:XV}{a c:AV}{l l':EL}{S:St}{K:St->Prop}(h:GS t x y l=some l')(d:ER φ x a)(m:ER φ y c)(q:MR φ l S)(v:∀S',MR φ l' S'->K S'):qh t a c S K:=by
 unfold GS at h;split at h
 .rename_i es i r;simp only[ER]at d;obtain⟨b,s,rfl⟩:=d;split at h
  .rename_i X u;obtain⟨b',g,w,A,z⟩:=q.live i X u;rw[s]at w;cases w;split at h
   .rename_i es' k B;split at h
    .rename_i n;simp only[au]at n;have C:=ak n.1.1;have D:=ak n.1.2;have E:=cu n.2;unfold qh;simp only[A,B];refine⟨C,D,E,?_⟩
     cases o:ap k 1 with
     | true =>
      rw[o]at h;have:=ak o;subst this;simp only at h;rw[ai rfl];split at h
      .rename_i f
       cases h
       refine⟨lD f m,v _ (q.put u s (lM.of fun j x d=>?_) sm)⟩
       simp only[bW,aD];by_cases e:j=r
       .subst e;rw[R9 om]at d;cases d;rw[ai rfl];exact m
       .rw[yQ om]at d;rw[af e];have:=z.get d
        rwa [aD]at this
      .cases h
     | false =>
      rw[o]at h;rw[af (fun e=>by subst e;simp at o)]
      simp only at h;split at h
      .rename_i L;simp only[ER]at m;obtain⟨R,rfl,p⟩:=m;split at h
       .rename_i f;simp only[au]at f;have F:=ak f.1
        cases h
        refine⟨by rw[p.length];exact F,pw f.2 p,v _ (q.put u s (lM.of fun j x d=>?_) (by simp[vP]))⟩
        rw[vQ _ _ _ _ om]at d;simp only[iW,aD,p.length];by_cases e:r<=j/\j<r+L.length
        .rw[ai e]at d;rw[ai e];obtain⟨a,G,H⟩:=p.get d;simp only[cT,G,fW];exact H
        .rw[af e]at d;rw[af e];have:=z.get d
         rwa [aD]at this
       .cases h
      .cases h
    .cases h
   .cases h
  .cases h
 .cases h
end

end Go.Proofs.YtdobfmlmenaajaaGreatDoor
