/-
  Lemmas for NeighbourGram.
-/
import Derived.Test.YtdobfmlmenaajaaGreatDoorG11
namespace Go.Proofs.YtdobfmlmenaajaaGreatDoor
open Go.RowKit Tryz
open _root_.List renaming getD→cF
open _root_.Nat renaming beq→ap,ble→je,div→pZ
open _root_.Option renaming none→ab
set_option maxHeartbeats 6400000
set_option maxRecDepth 4096
set_option linter.all false
variable{a q s xc xj:Int}{K K' N X Y b c i j m n r:Nat}{S:St}{α:Type}{A A0 A1 B:aJ}
def jZ(A:aJ)(i j:Nat)(q:Int):aJ:=fun r c=>if c=i then A r i-q*A r j else A r c
def lN(A:aJ)(i:Nat):aJ:=fun r c=>if c=i then-A r i else A r c
def Bc(A:aJ)(i j:Nat):aJ:=fun r c=>A r (dG i j c)
def pJ(n m:Nat)(A B:aJ):Prop:=∀x,eU n m A x↔eU n m B x
def pJ.refl(n m:Nat)(A:aJ):pJ n m A A:=fun _=>Iff.rfl
def pJ.trans{C:aJ}(h:pJ n m A B)(k:pJ n m B C):pJ n m A C:=fun x=>(h x).trans (k x)
def pJ.of(a:∀j,j<m->eU n m A (fun i=>B i j))(b:∀j,j<m->eU n m B (fun i=>A i j)):pJ n m A B :=
 fun _=>⟨eU.sub (eU.lat n m B) b,eU.sub (eU.lat n m A) a⟩
def EE(A:aJ){i k:Nat}(d:i<m)(c:k<m)(b:i≠k)(q:Int):pJ n m A (jZ A i k q):=by
 refine pJ.of (fun j a=>?_) (fun j a=>?_)
 .by_cases e:j=i
  .subst e;exact(eU.lat n m A).ext _ _ ((eU.lat n m A).comb _ _ (eU.col a) (eU.col c) 1 (-q)) (fun r _=>by simp only[jZ,aO];grind)
  .exact(eU.lat n m A).ext _ _ (eU.col a) (fun r _=>by simp[jZ,e])
 .by_cases e:j=i
  .subst e;refine(eU.lat n m _).ext _ _ ((eU.lat n m _).comb _ _ (eU.col (j:=j) a) (eU.col (j:=k) c) 1 q) (fun r _=>?_);simp only[jZ,aO,af (aj b)];grind
  .exact(eU.lat n m _).ext _ _ (eU.col (j:=j) a) (fun r _=>by simp[jZ,e])
def Oz(A:aJ){i k:Nat}(d:i<m)(e:k<m):pJ n m A (Bc A i k):=by
 have c:∀j,j<m->dG i k j<m:=fun j a=>by unfold dG;split<;>(try split)<;>omega
 have b:∀j,dG i k (dG i k j)=j:=fun j=>by unfold dG;grind
 refine pJ.of (fun j a=>eU.col (c j a)) (fun j a=>?_);have:=eU.col (n:=n) (B:=Bc A i k) (c j a);simpa only[Bc,b]using this
def L9(A:aJ){i:Nat}(b:i<m):pJ n m A (lN A i):=by
 refine pJ.of (fun j a=>?_) (fun j a=>?_)
 .by_cases e:j=i
  .subst e;exact(eU.lat n m A).ext _ _ ((eU.lat n m A).smul (eU.col a) (-1)) (fun r _=>by simp[lN])
  .exact(eU.lat n m A).ext _ _ (eU.col a) (fun r _=>by simp[lN,e])
 .by_cases e:j=i
  .subst e;exact(eU.lat n m _).ext _ _ ((eU.lat n m _).smul (eU.col (j:=j) a) (-1)) (fun r _=>by simp[lN])
  .exact(eU.lat n m _).ext _ _ (eU.col (j:=j) a) (fun r _=>by simp[lN,e])
def qG(x q y:Int):(x-q*y).natAbs<=x.natAbs+q.natAbs*y.natAbs:=by
 rw[<-cY];omega
def Mu{r:Int}(b:q.natAbs*s.natAbs<=a.natAbs+r.natAbs):xj.natAbs*r.natAbs+(xc-q*xj).natAbs*s.natAbs<=xc.natAbs*s.natAbs+xj.natAbs*a.natAbs+2*(xj.natAbs*r.natAbs):=by
 have c:=aC s.natAbs (qG xc q xj);have d:=aL xj.natAbs b;rw[dE]at c;rw[bS]at d;have e:q.natAbs*xj.natAbs*s.natAbs=xj.natAbs*(q.natAbs*s.natAbs):=by rw[ay q.natAbs,a6]
 omega
def O6{r:Int}(b:q.natAbs*s.natAbs+r.natAbs<=a.natAbs):xj.natAbs*r.natAbs+(xc-q*xj).natAbs*s.natAbs<=xc.natAbs*s.natAbs+xj.natAbs*a.natAbs:=by
 have c:=aC s.natAbs (qG xc q xj);have d:=aL xj.natAbs b;rw[dE]at c;rw[bS]at d;have e:q.natAbs*xj.natAbs*s.natAbs=xj.natAbs*(q.natAbs*s.natAbs):=by rw[ay q.natAbs,a6]
 omega
def Rz(b:s≠0):0<=a-a/s*s/\(a-a/s*s).natAbs<s.natAbs/\(a/s).natAbs*s.natAbs<=a.natAbs+(a-a/s*s).natAbs:=by
 have e:=aU a b;have f:=SR a b;have c:=di a s;rw[cR s]at c;have d:(a/s).natAbs*s.natAbs=(a/s*s).natAbs:=(cY ..).symm;rw[d];generalize a/s*s=z at *;omega
def O7(d:0<a)(e:0<s):(a/s).natAbs*s.natAbs+(a-a/s*s).natAbs<=a.natAbs:=by
 have f:=aU a (om:s≠0)
 have b:=di a s;rw[cR s]at b;have c:(a/s).natAbs*s.natAbs=(a/s*s).natAbs:=(cY ..).symm;have g:0<=a/s*s:=cZ (mj om om) om;rw[c];generalize a/s*s=z at *;omega
def SS(N X Y row c j:Nat)(A:aJ):Prop :=
 ((A row c).natAbs<=Y/\(A row j).natAbs<=Y)/\((∀r,r<N->(A r c).natAbs<=X/\(A r j).natAbs<=X) ∨
 (0<=A row j/\(A row j).natAbs<(A row c).natAbs/\(∀r,r<N->(A r c).natAbs<=12*(X*Y)) /\
  ((∀r,r<N->(A r c).natAbs*(A row j).natAbs+(A r j).natAbs*(A row c).natAbs<=4*(X*Y)) ∨
    (0<A row c/\∀r,r<N->(A r c).natAbs*(A row j).natAbs+(A r j).natAbs*(A row c).natAbs<=12*(X*Y)))))
def KP(A:aJ)(row c j:Nat):aJ:=Bc (jZ A c j (A row c/A row j)) c j
def Mv{row:Nat}(h:c≠j):KP A row c j r c=A r j:=by
 simp[KP,Bc,jZ,dG,aj h]
def IM{row:Nat}(h:c≠j):KP A row c j r j=A r c-A row c/A row j*A r j:=by
 simp[KP,Bc,jZ,dG,aj h]
def ET{row k:Nat}(a:k≠c)(b:k≠j):KP A row c j r k=A r k:=by
 simp[KP,Bc,jZ,dG,a,b]
def ED(X:Nat):X<=X*X:=by
 rcases aX X with h|h
 .subst h;omega
 .exact sC X h
def SS.bd{row:Nat}(h:SS N X Y row c j A)(d:0<Y){r:Nat}(b:r<N):(A r c).natAbs<=12*(X*Y)/\(A r j).natAbs<=12*(X*Y):=by
 have f:X<=X*Y:=sC X d;rcases h.2 with h|⟨g,i,e,a⟩
 .have:=h r b;omega
 .refine⟨e r b,?_⟩;have k:=aL (A r j).natAbs (om:1<=(A row c).natAbs)
  rcases a with a|⟨_,a⟩
  .have:=a r b;omega
  .have:=a r b;omega
def SS.step{row:Nat}(h:SS N X Y row c j A)(l:0<Y)(b:c≠j)(m:A row j≠0):SS N X Y row c j (KP A row c j)/\(KP A row c j row j).natAbs<(A row j).natAbs:=by
 obtain⟨n,f,g⟩:=Rz (a:=A row c) m;obtain⟨o,q⟩:=h.1;refine⟨⟨by rw[Mv b,IM b];omega,bO ?_⟩,by rw[IM b];exact f⟩
 simp only[Mv b,IM b];refine⟨n,f,fun r d=>(h.bd l d).2,?_⟩;rcases h.2 with h|⟨v,w,x,e⟩
 .refine bM fun r d=>?_;obtain⟨s,i⟩:=h r d;have p:=Mu (xc:=A r c) (xj:=A r j) g;have k:=bs s q;have y:=bs i o;have t:=bs i (show(A row c-A row c/A row j*A row j).natAbs<=Y by omega)
  omega
 .rcases e with e|⟨u,e⟩
  .refine bO ⟨om,fun r d=>?_⟩
   have p:=Mu (xc:=A r c) (xj:=A r j) g;have k:=e r d;have t:=aL (A r j).natAbs (show(A row c-A row c/A row j*A row j).natAbs<=(A row c).natAbs by omega)
   omega
  .refine bO ⟨om,fun r d=>?_⟩
   have p:=O6 (xc:=A r c) (xj:=A r j) (O7 u (om:0<A row j))
   have k:=e r d;omega
def gg(K m:Nat):Nat->Nat
 | 0=>K
 | i+1=>(if i=0 then 1 else 2)*(gg K m i+(m-1-i)*(gg K m i+4))+4
theorem P8(K m:Nat):∀i d,gg K m i<=gg K m (i+d)
 | i,0=>ae _
 | i,d+1=>by have:=P8 K m i d;show _<=(if i+d=0 then 1 else 2)*(gg K m (i+d)+_)+4;split<;>omega
def IJ{i':Nat}(h:i<=i'):gg K m i<=gg K m i':=by
 obtain⟨d,rfl⟩:∃d,i'=i+d:=⟨i'-i,om⟩
 exact P8 K m i d
def p12(k j:Nat):12*(2^k*2^j)<=2^(k+j+4):=by
 rw[<-fv,fv 2 (k+j) 4];omega
def oM{a:Nat}(h:a<=b):2^a<=2^b:=bZ om h
structure KV(n m row c j:Nat)(A0 A:aJ):Prop where
 lat:pJ n m A0 A
 left:∀r k,k<c->A r k=A0 r k
 low:∀r k,r<row->c<=k->k<m->A r k=0
 done:∀k,c<k->k<j->A row k=0
def Bd(N m K:Nat)(A:aJ):Prop:=∀r k,r<N->k<m->(A r k).natAbs<=2^K
structure PT(n m N K b row c j:Nat)(A0 A:aJ):Prop where
 ga:KV n m row c j A0 A
 oth:∀r k,r<N->k<m->k≠c->k≠j->(A r k).natAbs<=2^K
 rw:∀k,c<=k->k<m->(A row k).natAbs<=2^b
 eu:SS N (2^K) (2^b) row c j A
def KV.eu{row:Nat}(h:KV n m row c j A0 A)(d:Bd N m K A)(e:∀k,c<=k->k<m->(A row k).natAbs<=2^b)(g:c<m)(f:c<=j)(i:j<m):PT n m N K b row c j A0 A :=
 ⟨h,fun r k a l _ _=>d r k a l,e,⟨e c (ae _) g,e j f i⟩,bM fun r a=>⟨d r c a g,d r j a i⟩⟩
def PT.step{row:Nat}(h:PT n m N K b row c j A0 A)(q:c<j)(o:j<m)(s:A row j≠0):PT n m N K b row c j A0 (KP A row c j)/\(KP A row c j row j).natAbs<(A row j).natAbs:=by
 obtain⟨p,t⟩:=h.eu.step (iq om) om s;refine⟨⟨⟨h.ga.lat.trans ((EE A om o om _).trans (Oz _ om o)),fun r k a=>?_,fun r k e a d=>?_,fun k i l=>?_⟩,fun r k e a i l=>?_,fun k a d=>?_,p⟩,t⟩
 .rw[ET om om];exact h.ga.left r k a
 .have u:=h.ga.low r c e om om;have z2:=h.ga.low r j e om o;by_cases f:k=c
  .subst f;rw[Mv om];exact z2
  .by_cases g:k=j
   .subst g;rw[IM om,u,z2];simp
   .rw[ET f g];exact h.ga.low r k e a d
 .rw[ET om om];exact h.ga.done k i l
 .rw[ET i l];exact h.oth r k e a i l
 .by_cases f:k=c
  .subst f;exact p.1.1
  .by_cases g:k=j
   .subst g;exact p.1.2
   .rw[ET f g];exact h.rw k a d
def PT.bd{row:Nat}(h:PT n m N K b row c j A0 A):Bd N m (K+b+4) A:=fun r k a g=>by
 have e:=p12 K b;have i:=oM (om:K<=K+b+4)
 have l:=h.eu.bd (iq om) a;by_cases d:k=c
 .subst d;omega
 .by_cases f:k=j
  .subst f;omega
  .have:=h.oth r k a g d f;omega
def PT.fin{row:Nat}(h:PT n m N K b row c j A0 A)(a:A row j=0):KV n m row c (j+1) A0 A/\Bd N m (K+b+4) A :=
 ⟨⟨h.ga.lat,h.ga.left,h.ga.low,fun k d f=>by
  by_cases e:k=j
  .subst e;exact a
  .exact h.ga.done k d om⟩,h.bd⟩
def KV.neg{row:Nat}(h:KV n m row c j A0 A)(e:Bd N m K A)(f:c<m):KV n m row c j A0 (lN A c)/\Bd N m K (lN A c):=by
 refine⟨⟨h.lat.trans (L9 A f),fun r k a=>?_,fun r k b a d=>?_,fun k g i=>?_⟩,fun r k b a=>?_⟩
 .simp only[lN];rw[af om];exact h.left r k a
 .simp only[lN];have l:=h.low r c b om om;split
  .omega
  .exact h.low r k b a d
 .simp only[lN];rw[af om];exact h.done k g i
 .simp only[lN];have l:=e r c b f;split
  .omega
  .exact e r k b a
def F5(d:wC m i A)(f:i<=m){x c:iz}(g:∀r,r<i->x r=az m (fun j=>A r j*c j))(h:∀r,r<i->x r=0):∀j,j<i->c j=0:=by
 intro j
 induction j using Nat.strongRecOn with
 | _ j ih =>
  intro b;have e:=g j b;rw[h j b,da j om (fun k l n=>by
   rcases aA k j with a|a
   .rw[ih k a om];simp
   .rw[(d j b).1 k om l];simp)]at e
  rcases jp.1 e.symm with a|a
  .have:=(d j b).2;omega
  .exact a
structure I6(n m N K i:Nat)(A0 A:aJ):Prop where
 lat:pJ n m A0 A
 tri:wC m i A
 red:∀r j,r<i->j<r->0<=A r j/\A r j<A r r
 bd:Bd N m (gg K m i) A
def I6.ga(h:I6 n m N K i A0 A):KV n m i i (i+1) A A :=
 ⟨pJ.refl n m A,fun _ _ _=>rfl,fun r k b c a=>(h.tri r b).1 k om a,fun k d e=>om⟩
def I6.piv(h:I6 n m N K i A0 A)(d:KV n m i i m A A1)(p:i<n)(q:n<=m)(s:∃M,M≠0/\eU n m A0 (gk M i))(z:0<=A1 i i):wC m (i+1) A1/\∀r j,r<i->j<r->0<=A1 r j/\A1 r j<A1 r r:=by
 have l:wC m i A1:=fun r a=>⟨fun j f b=>by
   rcases aA j i with g|g
   .rw[d.left r j g];exact(h.tri r a).1 j f b
   .exact d.low r j a g b,by rw[d.left r r a];exact(h.tri r a).2⟩
 have t:A1 i i≠0:=fun e=>by
  obtain⟨M,u,v⟩:=s;obtain⟨c,o⟩:=(h.lat.trans d.lat _).1 v;have w:=F5 l om (fun r a=>o r om) (fun r a=>by simp only[gk];rw[af om])
  have f:=o i p;rw[iP fun k x=>by
   rcases dN k i with b|b|b
   .rw[w k b];simp
   .rw[b,e];simp
   .rw[d.done k b x];simp]at f
  simp only[gk,aO]at f;exact u f
 refine⟨fun r a=>?_,fun r j a y=>?_⟩
 .by_cases e:r=i
  .subst e;exact⟨fun j f b=>d.done j f b,om⟩
  .exact l r om
 .rw[d.left r j om,d.left r r a];exact h.red r j a y
structure PM(n m N K b i s:Nat)(A0 A:aJ):Prop where
 lat:pJ n m A0 A
 tri:wC m (i+1) A
 red:∀r j,r<i->j<r->0<=A r j/\A r j<A r r
 now:∀j,j<s->0<=A i j/\A i j<A i i
 bd:∀r k,r<N->k<m->(A r k).natAbs<=if k<s then 2^(2*K+4)else 2^K
 rw:∀k,s<=k->k<=i->(A i k).natAbs<=2^b
def PM.step{s:Nat}(h:PM n m N K b i s A0 A)(y:s<i)(d:i<m)(o:i<N):PM n m N K b i (s+1) A0 (jZ A s i (A i s/A i i)):=by
 have p:=(h.tri i om).2;have z:∀r,r<i->A r i=0:=fun r a=>(h.tri r om).1 i a d;have keep:∀r k,r<i->jZ A s i (A i s/A i i) r k=A r k:=fun r k a=>by
  simp only[jZ];split
  .rename_i e;rw[z r a,e];simp
  .rfl
 have oth:∀r k,k≠s->jZ A s i (A i s/A i i) r k=A r k:=fun r k l=>by simp[jZ,l]
 refine⟨h.lat.trans (EE A om d om _),fun r a=>?_,fun r j a q=>?_,fun j q=>?_,fun r k a l=>?_,fun k f c=>by rw[oth i k om];exact h.rw k om c⟩
 .by_cases e:r=i
  .subst e;exact⟨fun j f c=>by rw[oth r j om];exact(h.tri r om).1 j f c,by rw[oth r r om];exact p⟩
  .refine⟨fun j f c=>?_,?_⟩
   .rw[keep r j om];exact(h.tri r a).1 j f c
   .rw[keep r r om];exact(h.tri r a).2
 .rw[keep r j a,keep r r a];exact h.red r j a q
 .rw[oth i i om];by_cases e:j=s
  .subst e;simp only[jZ,aO];have f:=aU (A i j) (om:A i i≠0)
   have c:=aS (A i j) p;have t:=di (A i j) (A i i);rw[cR (A i i)]at t;omega
  .rw[oth i j e];exact h.now j om
 .by_cases e:k=s
  .subst e;rw[ai om];simp only[jZ,aO];have g:=h.bd r k a l;have u:=h.bd r i a d;have v:=h.bd i k o l;rw[af om]at g u v;have f:=qG (A r k) (A i k/A i i) (A r i);have c:=jg (A i k) (A i i);have t:=bs (bU c v) u;have x:=p12 K K;rw[(om:K+K+4=2*K+4)]at x
   have B:=ED (2^K);omega
  .rw[oth r k e];have g:=h.bd r k a l;by_cases w:k<s
   .rw[ai w]at g;rw[ai om];exact g
   .rw[af w]at g;rw[af om];exact g
def I6.re(h:I6 n m N K i A0 A)(d:n<=N)(a:KV n m i i m A A1)(f:Bd N m K' A1)(g:(A1 i i).natAbs<=2^gg K m i)(l:i<n)(b:n<=m)(o:∃M,M≠0/\eU n m A0 (gk M i))(p:0<=A1 i i):PM n m N K' (gg K m i) i 0 A0 A1:=by
 obtain⟨q,s⟩:=h.piv a l b o p;refine⟨h.lat.trans a.lat,q,s,fun j u=>om,fun r k t c=>by rw[af om];exact f r k t c,fun k _ c=>?_⟩
 by_cases e:k=i
 .rw[e];exact g
 .rw[a.left i k om];exact h.bd i k om om
def PM.fin(h:PM n m N K' b i i A0 A)(f:(if i=0 then 1 else 2)*K'+4<=gg K m (i+1)):I6 n m N K (i+1) A0 A:=by
 refine⟨h.lat,h.tri,fun r j a c=>?_,fun r k a g=>?_⟩
 .by_cases e:r=i
  .subst e;exact h.now j c
  .exact h.red r j om c
 .have d:=h.bd r k a g;have l:=oM f;by_cases e:i=0
  .rw[af om]at d;have o:=oM (show K'<=(if i=0 then 1 else 2)*K'+4 by rw[ai e];omega)
   omega
  .rw[af e]at l;have o:=oM (om:K'<=2*K'+4)
   split at d<;>omega
def I6.init(a:Bd N m K A):I6 n m N K 0 A A :=
 ⟨pJ.refl n m A,fun r b=>om,fun r j b _=>om,a⟩
def I6.cut(h:I6 n (n+1) N K n A0 A)(y:iz):eU n n A y↔eU n (n+1) A0 y:=by
 refine Iff.trans ?_ (h.lat y).symm;have z:∀r,r<n->A r n=0:=fun r d=>(h.tri r d).1 n d om;constructor
 .rintro⟨c,b⟩;exact⟨c,fun i a=>by rw[b i a];simp only[az];rw[z i a];omega⟩
 .rintro⟨c,b⟩;exact⟨c,fun i a=>by rw[b i a];simp only[az];rw[z i a];omega⟩

noncomputable section
inductive XV where
 | int (k:IntKind) (n:Int)
 | bool (b:Bool)
 | big (z:Int)
 | nil
 | sl (es i off len:Nat)
 | ptr (es i k:Nat)
 | lst (es:Nat) (l:List XV)
 | pat (es:Nat) (x:XV)
 | tup (l:List XV)
 | agg (l:List XV)
 | fn (f:Nat) (l:List XV)
 | any
 | nfn
 | mfn (f:Nat) (l:List XV)
abbrev Ph:=Nat->Option Nat
variable{φ:Ph}
def Ph.le(φ ψ:Ph):Prop:=∀i b,φ i=some b->ψ i=some b
def Ph.set(φ:Ph)(i b:Nat):Ph:=fun k=>if k=i then some b else φ k
def Ph.le_refl(φ:Ph):φ.le φ:=fun _ _ h=>h
def Ph.le_trans{ψ χ:Ph}(h:φ.le ψ)(k:ψ.le χ):φ.le χ:=fun i b e=>k i b (h i b e)
def Ph.le_set(h:φ i=ab):φ.le (φ.set i b):=fun k c e=>by
 unfold Ph.set;by_cases ek:k=i
 .subst ek;rw[h]at e;cases e
 .rw[af ek];exact e
mutual
def ER(φ:Ph):XV->AV->Prop
 | .int k n,a=>a=.int k n
 | .bool b,a=>a=.bool b
 | .big z,a=>a=.big z
 | .nil,a=>a=.nil
 | .sl es i off len,a=>∃b,φ i=some b/\a=.sl es b off len
 | .ptr es i k,a=>∃b,φ i=some b/\a=.ptr es b k
 | .lst es l,a=>∃g,a=.lst es l.length g/\lu φ l g 0
 | .pat es x,a=>∃y,a=.pat es y/\ER φ x y
 | .tup l,a=>∃r,a=.tup r/\eZ φ l r
 | .agg l,a=>∃r,a=.agg r/\eZ φ l r
 | .fn f l,a=>∃r,a=.fn f r/\eZ φ l r
 | .any,_=>True
 | .nfn,a=>a=.nfn
 | .mfn f l,a=>∃r,a=.mfn f r/\eZ φ l r
def eZ(φ:Ph):List XV->List AV->Prop
 | [],[]=>True
 | x::l,a::r=>ER φ x a/\eZ φ l r
 | [],_::_=>False
 | _::_,[]=>False
def lu(φ:Ph):List XV->(Nat->AV)->Nat->Prop
 | [],_,_=>True
 | x::l,g,k=>ER φ x (g k)/\lu φ l g (k+1)
end
mutual
theorem ER.mono{φ ψ:Ph}(h:φ.le ψ):∀(x:XV) (a:AV),ER φ x a->ER ψ x a
 | .int ..,_,e=>by simpa [ER]using e
 | .bool _,_,e=>by simpa [ER]using e
 | .big _,_,e=>by simpa [ER]using e
 | .nil,_,e=>by simpa [ER]using e
 | .sl ..,_,e=>by
  simp only[ER]at e ⊢;obtain⟨b,c,d⟩:=e;exact⟨b,h _ _ c,d⟩
 | .ptr ..,_,e=>by
  simp only[ER]at e ⊢;obtain⟨b,c,d⟩:=e;exact⟨b,h _ _ c,d⟩
 | .lst _ l,_,e=>by
  simp only[ER]at e ⊢;obtain⟨g,c,d⟩:=e;exact⟨g,c,lu.mono h l g 0 d⟩
 | .pat _ x,_,e=>by
  simp only[ER]at e ⊢;obtain⟨y,c,d⟩:=e;exact⟨y,c,ER.mono h x y d⟩
 | .tup l,_,e=>by
  simp only[ER]at e ⊢;obtain⟨r,c,d⟩:=e;exact⟨r,c,eZ.mono h l r d⟩
 | .agg l,_,e=>by
  simp only[ER]at e ⊢;obtain⟨r,c,d⟩:=e;exact⟨r,c,eZ.mono h l r d⟩
 | .fn _ l,_,e=>by
  simp only[ER]at e ⊢;obtain⟨r,c,d⟩:=e;exact⟨r,c,eZ.mono h l r d⟩
 | .any,_,_=>by simp[ER]
 | .nfn,_,e=>by simpa [ER]using e
 | .mfn _ l,_,e=>by
  simp only[ER]at e ⊢;obtain⟨r,c,d⟩:=e;exact⟨r,c,eZ.mono h l r d⟩
theorem eZ.mono{φ ψ:Ph}(h:φ.le ψ):∀(l:List XV) (r:List AV),eZ φ l r->eZ ψ l r
 | [],[],_=>by simp[eZ]
 | x::l,a::r,e=>by simp only[eZ]at e ⊢;exact⟨ER.mono h x a e.1,eZ.mono h l r e.2⟩
 | [],_::_,e=>by simp[eZ]at e
 | _::_,[],e=>by simp[eZ]at e
theorem lu.mono{φ ψ:Ph}(h:φ.le ψ):∀(l:List XV) (g:Nat->AV) (k:Nat),lu φ l g k->lu ψ l g k
 | [],_,_,_=>by simp[lu]
 | x::l,g,k,e=>by simp only[lu]at e ⊢;exact⟨ER.mono h x _ e.1,lu.mono h l g (k+1) e.2⟩
end
theorem eZ.length{φ:Ph}:∀{l:List XV} {r:List AV},eZ φ l r->r.length=l.length
 | [],[],_=>rfl
 | _::_,_::_,e=>by simp only[eZ]at e;simp[eZ.length e.2]
 | [],_::_,e=>by simp[eZ]at e
 | _::_,[],e=>by simp[eZ]at e
theorem eZ.get{φ:Ph}:∀{l:List XV} {r:List AV} {j:Nat} {x:XV},eZ φ l r->l[j]? = some x->∃a,r[j]? = some a/\ER φ x a
 | x::l,a::r,0,y,e,h=>by
  simp only[eZ]at e;simp only[cO,eG]at h;subst h;exact⟨a,rfl,e.1⟩
 | x::l,a::r,j+1,y,e,h=>by
  simp only[eZ]at e;rw[bV]at h ⊢;exact eZ.get e.2 h
 | [],_,_,_,_,h=>by simp at h
 | _::_,[],_,_,e,_=>by simp[eZ]at e
theorem lu.get{φ:Ph}:∀{l:List XV} {g:Nat->AV} {k j:Nat} {x:XV},lu φ l g k->l[j]? = some x->ER φ x (g (k+j))
 | x::l,g,k,0,y,e,h=>by
  simp only[lu]at e;simp only[cO,eG]at h;subst h;exact e.1
 | x::l,g,k,j+1,y,e,h=>by
  simp only[lu]at e;rw[bV]at h;have:=lu.get e.2 h
  rwa [(om:k+1+j=k+(j+1))]at this
 | [],_,_,_,_,_,h=>by simp at h
theorem lu.of{φ:Ph}:∀{l:List XV} {g:Nat->AV} {k:Nat},(∀j x,l[j]? = some x->ER φ x (g (k+j)))->lu φ l g k
 | [],_,_,_=>by simp[lu]
 | x::l,g,k,h=>by
  simp only[lu];refine⟨h 0 x rfl,lu.of fun j y a=>?_⟩;have:=h (j+1) y (by rw[bV];exact a)
  rwa [(om:k+(j+1)=k+1+j)]at this
theorem eZ.of{φ:Ph}:∀{l:List XV} {r:List AV},r.length=l.length->(∀(j:Nat) (x:XV) (a:AV),l[j]? = some x->r[j]? = some a->ER φ x a)->eZ φ l r
 | [],[],_,_=>by simp[eZ]
 | x::l,a::r,e,h=>by
  simp only[eZ];exact⟨h 0 x a rfl rfl,eZ.of (by simpa using e) fun j y b c d=>h (j+1) y b (by simpa using c) (by simpa using d)⟩
 | [],_::_,e,_=>by simp at e
 | _::_,[],e,_=>by simp at e
theorem eZ.append{φ:Ph}:∀{l m:List XV} {r s:List AV},eZ φ l r->eZ φ m s->eZ φ (l++m) (r++s)
 | [],_,[],_,_,h=>h
 | _::_,_,_::_,_,e,h=>by simp only[eZ,lw]at e ⊢;exact⟨e.1,eZ.append e.2 h⟩
 | [],_,_::_,_,e,_=>by simp[eZ]at e
 | _::_,_,[],_,e,_=>by simp[eZ]at e
structure EB where
 ty:Nat
 es:Nat
 l:List XV
inductive EL where
 | e
 | d
 | n (x:Option (Option EB)) (l r:EL)
variable{l:EL}
def en(s:EL):Nat->Option (Option EB):=EL.rec (motive:=fun _=>Nat->Option (Option EB)) (fun _=>ab) (fun _=>some ab) (fun x _ _ a b t=>Bool.rec (Bool.rec (b (Nat.sub (pZ t 2) 1)) (a (pZ t 2)) (ap (Nat.mod t 2) 1)) x (ap t 0)) s
def rC(b:EL)(o:Option (Option EB))(x:Option EB)(fuel:Nat):Nat->EL:=Nat.rec (motive:=fun _=>Nat->EL) (fun _=>b) (fun _ ih t=>Bool.rec (Bool.rec (.n o b (ih (Nat.sub (pZ t 2) 1))) (.n o (ih (pZ t 2)) b) (ap (Nat.mod t 2) 1)) (.n (some x) b b) (ap t 0)) fuel
def rE(s:EL)(i:Nat)(x:Option EB):EL:=EL.rec (motive:=fun _=>Nat->EL) (fun t=>rC .e ab x (Nat.succ t) t) (fun t=>rC .d (some ab) x (Nat.succ t) t) (fun y l r a b t=>Bool.rec (Bool.rec (.n y l (b (Nat.sub (pZ t 2) 1))) (.n y (a (pZ t 2)) r) (ap (Nat.mod t 2) 1)) (.n (some x) l r) (ap t 0)) s i
def wX(a b:α)(p q:Nat):Bool.rec (motive:=fun _=>α) a b (ap p q)=if p=q then b else a:=by
 by_cases h:p=q
 .subst h;rw[ai rfl,Nat.beq_refl]
 .rw[af h]
  cases e:ap p q with
  | true=>exact absurd (ak e) h
  | false=>rfl
def yX(i:Nat):en .e i=ab:=rfl
def Gx(i:Nat):en .d i=some ab:=rfl
def jI(x:Option (Option EB))(l r:EL)(t:Nat):en (.n x l r) t=if t=0 then x else if t%2=1 then en l (t/2)else en r (t/2-1):=by
 show Bool.rec (motive:=fun _=>Option (Option EB)) (Bool.rec (motive:=fun _=>Option (Option EB)) (en r (t/2-1)) (en l (t/2)) (ap (t%2) 1)) x (ap t 0)=_;rw[wX,wX]
def Ov(b:EL)(o:Option (Option EB))(x:Option EB)(f t:Nat):rC b o x (f+1) t=if t=0 then .n (some x) b b else if t%2=1 then .n o (rC b o x f (t/2)) b else .n o b (rC b o x f (t/2-1)):=by
 show Bool.rec (motive:=fun _=>EL) (Bool.rec (motive:=fun _=>EL) (.n o b (rC b o x f (t/2-1))) (.n o (rC b o x f (t/2)) b) (ap (t%2) 1)) (.n (some x) b b) (ap t 0)=_;rw[wX,wX]
def ins_e(i:Nat)(x:Option EB):rE .e i x=rC .e ab x (i+1) i:=rfl
def ins_d(i:Nat)(x:Option EB):rE .d i x=rC .d (some ab) x (i+1) i:=rfl
def ins_n(y:Option (Option EB))(l r:EL)(t:Nat)(x:Option EB):rE (.n y l r) t x=if t=0 then .n (some x) l r else if t%2=1 then .n y (rE l (t/2) x) r else .n y l (rE r (t/2-1) x):=by
 show Bool.rec (motive:=fun _=>EL) (Bool.rec (motive:=fun _=>EL) (.n y l (rE r (t/2-1) x)) (.n y (rE l (t/2) x) r) (ap (t%2) 1)) (.n (some x) l r) (ap t 0)=_;rw[wX,wX]
def RP(h:i≠j):ap i j=false:=by
 cases e:ap i j with
 | true=>exact absurd (ak e) h
 | false=>rfl
def xK{t:Nat}(a:t≠0)(b:j≠0)(h:j≠t):(t%2=1->j%2=1->j/2≠t/2)/\(t%2≠1->j%2≠1->j/2-1≠t/2-1):=by
 constructor<;>intro c d<;>omega
theorem lO{b:EL}{o:Option (Option EB)}(a:∀j,en b j=o){x:Option EB}:∀(f t:Nat),t<f->∀j,en (rC b o x f t) j=if j=t then some x else o
 | 0,t,h,_=>om
 | f+1,t,h,j=>by
  rw[Ov];by_cases c:t=0
  .subst c;rw[ai rfl,jI,a,a];by_cases e:j=0
   .rw[ai e,ai e]
   .rw[af e,af e];split<;>rfl
  .rw[af c];by_cases g:j=0
   .subst g;rw[af (show ¬(0=t)from fun e=>c e.symm)];split<;>rw[jI,ai rfl]
   .by_cases e:j=t
    .subst e;rw[ai rfl];split
     .rename_i d;rw[jI,af c,ai d,lO a f _ om,ai rfl]
     .rename_i d;rw[jI,af c,af d,lO a f _ om,ai rfl]
    .obtain⟨d,l⟩:=xK c g e;rw[af e];split
     .rename_i i;rw[jI,af g,a];split
      .rename_i k;rw[lO a f _ om,af (d i k)]
      .rfl
     .rename_i i;rw[jI,af g,a];split
      .rfl
      .rename_i k;rw[lO a f _ om,af (l i k)]
theorem fC:∀(l:EL) (i:Nat) (x:Option EB) (j:Nat),en (rE l i x) j=if j=i then some x else en l j
 | .e,i,x,j=>by rw[ins_e,lO yX _ _ om,yX]
 | .d,i,x,j=>by rw[ins_d,lO Gx _ _ om,Gx]
 | .n y l r,t,x,j=>by
  rw[ins_n];by_cases a:t=0
  .subst a;rw[ai rfl,jI,jI];by_cases e:j=0
   .rw[ai e,ai e]
   .rw[af e,af e,af e]
  .rw[af a];by_cases b:j=0
   .subst b;rw[af (show ¬(0=t)from fun e=>a e.symm),jI,ai rfl];split<;>rw[jI,ai rfl]
   .by_cases e:j=t
    .subst e;rw[ai rfl];split
     .rename_i c;rw[jI,af a,ai c,fC,ai rfl]
     .rename_i c;rw[jI,af a,af c,fC,ai rfl]
    .obtain⟨c,h⟩:=xK a b e;rw[af e];split
     .rename_i f;rw[jI,jI,af b,af b];split
      .rename_i g;rw[fC,af (c f g)]
      .rfl
     .rename_i f;rw[jI,jI,af b,af b];split
      .rfl
      .rename_i g;rw[fC,af (h f g)]
structure MR(φ:Ph)(l:EL)(S:St):Prop where
 dom:∀i,en l i=ab->φ i=ab
 live:∀i X,en l i=some (some X)->∃b g,φ i=some b/\S b=some ⟨X.ty,X.es,X.l.length,g⟩/\lu φ X.l g 0
 inj:∀i j X Y b,en l i=some (some X)->en l j=some (some Y)->φ i=some b->φ j=some b->i=j
def MR.new(h:MR φ l S){nx b:Nat}(r:en l nx=ab)(p:S b=ab){ty es:Nat}{L:List XV}{g:Nat->AV}(s:lu φ L g 0){n:Nat}(t:n=L.length) :
  φ.le (φ.set nx b)/\MR (φ.set nx b) (rE l nx (some ⟨ty,es,L⟩)) (S.upd b ⟨ty,es,n,g⟩):=by
 subst t;have d:φ.le (φ.set nx b):=Ph.le_set (h.dom nx r);refine⟨d,fun i a=>?_,fun i X a=>?_,fun i j X Y c a m ei ej=>?_⟩
 .rw[fC]at a;by_cases e:i=nx
  .rw[ai e]at a;cases a
  .rw[af e]at a;unfold Ph.set;rw[af e];exact h.dom i a
 .rw[fC]at a;by_cases e:i=nx
  .rw[ai e]at a;cases a;exact⟨b,g,by unfold Ph.set;rw[ai e],ci,s.mono d⟩
  .rw[af e]at a;obtain⟨c,g',o,k,q⟩:=h.live i X a;refine⟨c,g',d _ _ o,?_,q.mono d⟩;rw[aN (fun f=>by subst f;rw[p]at k;cases k)];exact k
 .rw[fC]at a m;have key:∀i X,i≠nx->en l i=some (some X)->φ.set nx b i=some b->False:=fun i X e a ei=>by
   unfold Ph.set at ei;rw[af e]at ei;obtain⟨c,g',o,k,q⟩:=h.live i X a;rw[ei]at o;cases o;rw[p]at k;cases k
  by_cases e:i=nx
  .by_cases f:j=nx
   .omega
   .rw[af f]at m;have:c=b:=by unfold Ph.set at ei;rw[ai e]at ei;cases ei;rfl
    subst this;exact(key j Y f m ej).elim
  .rw[af e]at a;by_cases f:j=nx
   .have:c=b:=by unfold Ph.set at ej;rw[ai f]at ej;cases ej;rfl
    subst this;exact(key i X e a ei).elim
   .rw[af f]at m;unfold Ph.set at ei ej;rw[af e]at ei;rw[af f]at ej;exact h.inj i j X Y c a m ei ej
def MR.put(h:MR φ l S){i b:Nat}{X:EB}(f:en l i=some (some X))(p:φ i=some b){L:List XV}{g:Nat->AV}(q:lu φ L g 0){n:Nat}(r:n=L.length) :
  MR φ (rE l i (some ⟨X.ty,X.es,L⟩)) (S.upd b ⟨X.ty,X.es,n,g⟩):=by
 subst r;refine⟨fun j a=>?_,fun j Y a=>?_,fun j k Y Z c a m ej ek=>?_⟩
 .rw[fC]at a;by_cases e:j=i
  .rw[ai e]at a;cases a
  .rw[af e]at a;exact h.dom j a
 .rw[fC]at a;by_cases e:j=i
  .rw[ai e]at a;cases a;subst e;exact⟨b,g,p,ci,q⟩
  .rw[af e]at a;obtain⟨c,g',d,o,s⟩:=h.live j Y a;refine⟨c,g',d,?_,s⟩;rw[aN (fun t=>by subst t;exact e (h.inj j i Y X _ a f d p))];exact o
 .rw[fC]at a m;have ej':∃Y',en l j=some (some Y'):=by
   by_cases e:j=i
   .subst e;exact⟨X,f⟩
   .rw[af e]at a;exact⟨Y,a⟩
  have ek':∃Y',en l k=some (some Y'):=by
   by_cases e:k=i
   .subst e;exact⟨X,f⟩
   .rw[af e]at m;exact⟨Z,m⟩
  obtain⟨Y',d⟩:=ej';obtain⟨Z',o⟩:=ek';exact h.inj j k Y' Z' c d o ej ek
def MR.move(h:MR φ l S){i b nx b':Nat}{X:EB}(t:en l i=some (some X))(w:φ i=some b)(u:en l nx=ab)(o:b'=b∨S b'=ab){ty es:Nat}{L:List XV}{g:Nat->AV}(x:lu φ L g 0){n:Nat}(y:n=L.length) :
  φ.le (φ.set nx b')/\MR (φ.set nx b') (rE (rE l i ab) nx (some ⟨ty,es,L⟩)) ((S.del b).upd b' ⟨ty,es,n,g⟩):=by
 subst y;have f:φ.le (φ.set nx b'):=Ph.le_set (h.dom nx u);have z:i≠nx:=fun e=>by subst e;rw[t]at u;cases u
 have key:∀j Y,en (rE l i ab) j=some (some Y)->j≠i/\en l j=some (some Y):=fun j Y a=>by
  rw[fC]at a;by_cases e:j=i
  .rw[ai e]at a;cases a
  .rw[af e]at a;exact⟨e,a⟩
 have keyb:∀j Y,j≠i->en l j=some (some Y)->φ j≠some b':=fun j Y e a ej=>by
  rcases o with rfl|o
  .exact e (h.inj j i Y X _ a t ej w)
  .obtain⟨c,g',q,s,_⟩:=h.live j Y a;rw[ej]at q;cases q;rw[o]at s;cases s
 refine⟨f,fun j a=>?_,fun j Y a=>?_,fun j k Y Z c a m ej ek=>?_⟩
 .rw[fC]at a;by_cases e:j=nx
  .rw[ai e]at a;cases a
  .rw[af e,fC]at a;by_cases d:j=i
   .rw[ai d]at a;cases a
   .rw[af d]at a;unfold Ph.set;rw[af e];exact h.dom j a
 .rw[fC]at a;by_cases e:j=nx
  .rw[ai e]at a;cases a;exact⟨b',g,by unfold Ph.set;rw[ai e],ci,x.mono f⟩
  .rw[af e]at a;obtain⟨d,a⟩:=key j Y a;obtain⟨c,g',q,s,A⟩:=h.live j Y a;have v:c≠b:=fun p=>by subst p;exact d (h.inj j i Y X _ a t q w)
   have r:c≠b':=fun p=>by subst p;exact keyb j Y d a q
   refine⟨c,g',f _ _ q,?_,A.mono f⟩;rw[aN r];unfold St.del;rw[af v];exact s
 .rw[fC]at a m;by_cases e:j=nx
  .by_cases d:k=nx
   .omega
   .rw[af d]at m;obtain⟨p,m⟩:=key k Z m;have:c=b':=by unfold Ph.set at ej;rw[ai e]at ej;cases ej;rfl
    subst this;unfold Ph.set at ek;rw[af d]at ek;exact(keyb k Z p m ek).elim
  .rw[af e]at a;obtain⟨p,a⟩:=key j Y a;unfold Ph.set at ej;rw[af e]at ej;by_cases d:k=nx
   .have:c=b':=by unfold Ph.set at ek;rw[ai d]at ek;cases ek;rfl
    subst this;exact(keyb j Y p a ej).elim
   .rw[af d]at m;obtain⟨B,m⟩:=key k Z m;unfold Ph.set at ek;rw[af d]at ek;exact h.inj j k Y Z c a m ej ek
end

noncomputable section
inductive TE where
 | e
 | n (x:XV) (l r:TE)
def jF(s:TE):Nat->XV:=TE.rec (motive:=fun _=>Nat->XV) (fun _=>.any) (fun x _ _ a b t=>Bool.rec (Bool.rec (b (Nat.sub (pZ t 2) 1)) (a (pZ t 2)) (ap (Nat.mod t 2) 1)) x (ap t 0)) s
def vS(v:XV)(fuel:Nat):Nat->TE:=Nat.rec (motive:=fun _=>Nat->TE) (fun _=>.e) (fun _ ih t=>Bool.rec (Bool.rec (.n .any .e (ih (Nat.sub (pZ t 2) 1))) (.n .any (ih (pZ t 2)) .e) (ap (Nat.mod t 2) 1)) (.n v .e .e) (ap t 0)) fuel
def yu(s:TE)(i:Nat)(v:XV):TE:=TE.rec (motive:=fun _=>Nat->TE) (fun t=>vS v (Nat.succ t) t) (fun y l r a b t=>Bool.rec (Bool.rec (.n y l (b (Nat.sub (pZ t 2) 1))) (.n y (a (pZ t 2)) r) (ap (Nat.mod t 2) 1)) (.n v l r) (ap t 0)) s i
def rQ(t:Nat):jF .e t=.any:=rfl
def kh(x:XV)(l r:TE)(t:Nat):jF (.n x l r) t=if t=0 then x else if t%2=1 then jF l (t/2)else jF r (t/2-1):=by
 show Bool.rec (motive:=fun _=>XV) (Bool.rec (motive:=fun _=>XV) (jF r (t/2-1)) (jF l (t/2)) (ap (t%2) 1)) x (ap t 0)=_;rw[wX,wX]
def NS(v:XV)(f t:Nat):vS v (f+1) t=if t=0 then .n v .e .e else if t%2=1 then .n .any (vS v f (t/2)) .e else .n .any .e (vS v f (t/2-1)):=by
 show Bool.rec (motive:=fun _=>TE) (Bool.rec (motive:=fun _=>TE) (.n .any .e (vS v f (t/2-1))) (.n .any (vS v f (t/2)) .e) (ap (t%2) 1)) (.n v .e .e) (ap t 0)=_;rw[wX,wX]
def Q1(i:Nat)(v:XV):yu .e i v=vS v (i+1) i:=rfl
def Q0(y:XV)(l r:TE)(t:Nat)(v:XV):yu (.n y l r) t v=if t=0 then .n v l r else if t%2=1 then .n y (yu l (t/2) v) r else .n y l (yu r (t/2-1) v):=by
 show Bool.rec (motive:=fun _=>TE) (Bool.rec (motive:=fun _=>TE) (.n y l (yu r (t/2-1) v)) (.n y (yu l (t/2) v) r) (ap (t%2) 1)) (.n v l r) (ap t 0)=_;rw[wX,wX]
theorem oF{v:XV}:∀(f t:Nat),t<f->∀j,jF (vS v f t) j=if j=t then v else .any
 | 0,t,h,_=>om
 | f+1,t,h,j=>by
  rw[NS];by_cases a:t=0
  .subst a;rw[ai rfl,kh,rQ,rQ];by_cases e:j=0
   .rw[ai e,ai e]
   .rw[af e,af e];split<;>rfl
  .rw[af a];by_cases c:j=0
   .subst c;rw[af (show ¬(0=t)from fun e=>a e.symm)];split<;>rw[kh,ai rfl]
   .by_cases e:j=t
    .subst e;rw[ai rfl];split
     .rename_i b;rw[kh,af a,ai b,oF f _ om,ai rfl]
     .rename_i b;rw[kh,af a,af b,oF f _ om,ai rfl]
    .obtain⟨b,i⟩:=xK a c e;rw[af e];split
     .rename_i d;rw[kh,af c,rQ];split
      .rename_i g;rw[oF f _ om,af (b d g)]
      .rfl
     .rename_i d;rw[kh,af c,rQ];split
      .rfl
      .rename_i g;rw[oF f _ om,af (i d g)]
theorem mb:∀(s:TE) (d:Nat) (v:XV) (t:Nat),jF (yu s d v) t=if t=d then v else jF s t
 | .e,i,v,j=>by rw[Q1,oF _ _ om,rQ]
 | .n y l r,t,x,j=>by
  rw[Q0];by_cases a:t=0
  .subst a;rw[ai rfl,kh,kh];by_cases e:j=0
   .rw[ai e,ai e]
   .rw[af e,af e,af e]
  .rw[af a];by_cases b:j=0
   .subst b;rw[af (show ¬(0=t)from fun e=>a e.symm),kh,ai rfl];split<;>rw[kh,ai rfl]
   .by_cases e:j=t
    .subst e;rw[ai rfl];split
     .rename_i c;rw[kh,af a,ai c,mb,ai rfl]
     .rename_i c;rw[kh,af a,af c,mb,ai rfl]
    .obtain⟨c,h⟩:=xK a b e;rw[af e];split
     .rename_i f;rw[kh,kh,af b,af b];split
      .rename_i g;rw[mb,af (c f g)]
      .rfl
     .rename_i f;rw[kh,kh,af b,af b];split
      .rfl
      .rename_i g;rw[mb,af (h f g)]
def ofL:List XV->Nat->TE->TE
 | [],_,s=>s
 | x::l,k,s=>ofL l (k+1) (yu s k x)
theorem Iu:∀(l:List XV) (k:Nat) (s:TE) (t:Nat),jF (ofL l k s) t=if k<=t/\t<k+l.length then l.getD (t-k) .any else jF s t
 | [],k,s,t=>by simp only[ofL,jn];rw[af om]
 | x::l,k,s,t=>by
  simp only[ofL,cA];rw[Iu l (k+1),mb];by_cases e:t=k
  .subst e;rw[af om,ai rfl,ai om,cb];rfl
  .rw[af e];by_cases h:k+1<=t/\t<k+1+l.length
   .rw[ai h,ai om,(om:t-k=(t-(k+1))+1)];rfl
   .rw[af h,af om]
def yQ(l:List XV):TE:=ofL l 0 .e
def Gn(l:List XV)(t:Nat):jF (yQ l) t=l.getD t .any:=by
 unfold yQ;rw[Iu,rQ,aB,eO];by_cases h:t<l.length
 .rw[ai ⟨jw _,h⟩]
 .rw[af (fun e=>h e.2),gO,ct om];rfl
def TR(φ:Ph)(te:TE)(O:Tm):Prop:=∀t,ER φ (jF te t) (O t)
def TR.mono{φ ψ:Ph}{te:TE}{O:Tm}(h:TR φ te O)(a:φ.le ψ):TR ψ te O:=fun t=>(h t).mono a
def TR.put{φ:Ph}{te:TE}{O:Tm}(h:TR φ te O){d:Nat}{v:XV}{z:AV}(a:ER φ v z):TR φ (yu te d v) (O.put (some d) z):=fun t=>by
 rw[mb,Tm.put_eq];by_cases e:t=d
 .simp only[e,ai];exact a
 .simp only[e,aP];exact h t
def RA:Value->XV
 | .int k n=>.int k n
 | .bool b=>.bool b
 | .slice ab 0 0=>.nil
 | _=>.any
def O9(φ:Ph)(v:Value):ER φ (RA v) (P6 v):=by
 unfold RA;split
 .simp[ER,P6]
 .simp[ER,P6]
 .simp[ER,P6]
 .simp[ER]
def kI(te:TE):Operand->XV
 | .tmp t=>jF te t
 | .const v=>RA v
 | .global _=>.any
 | .func f=>.fn f []
def TR.ev{φ:Ph}{te:TE}{O:Tm}(h:TR φ te O)(x:Operand):ER φ (kI te x) (ev O x):=by
 cases x with
 | tmp t=>exact h t
 | const v=>exact O9 φ v
 | global g=>simp[kI,ER]
 | func f=>simp only[kI,Go.Proofs.YtdobfmlmenaajaaGreatDoor.ev,ER];exact⟨[],rfl,by simp[eZ]⟩
def TR.evL{φ:Ph}{te:TE}{O:Tm}(h:TR φ te O):∀l:List Operand,eZ φ (l.map (kI te)) (l.map (Go.Proofs.YtdobfmlmenaajaaGreatDoor.ev O))
 | []=>by simp[eZ]
 | x::l=>by simp only[cG,eZ];exact⟨h.ev x,h.evL l⟩
def nj:Nat->XV->Bool
 | 1,.int .u32 _=>false
 | 1,.int _ _=>true
 | 1,.bool _=>true
 | 1,.nil=>true
 | 1,.sl ..=>true
 | 1,.ptr ..=>true
 | 1,.lst ..=>true
 | 1,.pat ..=>true
 | 1,.fn ..=>true
 | 1,.nfn=>true
 | 1,.mfn ..=>true
 | 2,.big _=>true
 | _,_=>false
def lk{φ:Ph}{es:Nat}{x:XV}{a:AV}(h:nj es x=true)(c:ER φ x a):eg es a:=by
 unfold nj at h;split at h
 .cases h
 .rename_i k n d;simp only[ER]at c;subst c;simp only[eg];intro e;subst e;exact d rfl
 all_goals first
  | (simp only[ER]at c;subst c;trivial)
  | (simp only[ER]at c;obtain⟨b,_,rfl⟩:=c;trivial)
  | (simp only[ER]at c;obtain⟨b,rfl,_⟩:=c;trivial)
  | exact absurd h dc
def ni(es:Nat):List XV->Bool
 | []=>true
 | x::l=>nj es x&&ni es l
theorem oP{φ:Ph}{es:Nat}:∀{l:List XV} {r:List AV},ni es l=true->eZ φ l r->∀z∈r,eg es z
 | [],[],_,_,z,c=>by cases c
 | x::l,a::r,h,b,z,c=>by
  simp only[ni,au]at h;simp only[eZ]at b;rcases rJ.1 c with rfl|c
  .exact lk h.1 b.1
  .exact oP h.2 b.2 z c
 | [],_::_,_,b,_,_=>by simp[eZ]at b
 | _::_,[],_,b,_,_=>by simp[eZ]at b
theorem uX{φ:Ph}{es:Nat}:∀{l:List XV} {g:Nat->AV} {k:Nat},ni es l=true->lu φ l g k->∀j,j<l.length->eg es (g (k+j))
 | [],_,_,_,_,j,b=>absurd b sm
 | x::l,g,k,h,a,0,_=>by
  simp only[ni,au]at h;simp only[lu]at a;exact lk h.1 a.1
 | x::l,g,k,h,a,j+1,b=>by
  simp only[ni,au]at h;simp only[lu]at a;have:=uX h.2 a.2 j (by simpa using b)
  rwa [(om:k+1+j=k+(j+1))]at this
def eZ.toG{φ:Ph}{l:List XV}{r:List AV}(h:eZ φ l r):lu φ l (fun j=>r.getD j .any) 0:=lu.of fun j x b=>by
 obtain⟨a,c,d⟩:=h.get b;simp only[aB,cF,c,fI];exact d
abbrev XR:=Option (XV×Nat×EL)
abbrev d9:=Nat->List XV->Nat->EL->XR
def sW(nx:Nat)(l:EL)(X:EB)(v:XV):XR:=match en l nx with
 | ab=>some (v,nx+1,rE l nx (some X))
 | some _=>ab
def XK(φ:Ph)(v:XV)(l:EL)(K:AV->St->Prop):Prop:=∀ψ z S,φ.le ψ->ER ψ v z->MR ψ l S->K z S
def pk{φ:Ph}{nx:Nat}{l:EL}{S:St}{ty es n:Nat}{L:List XV}{v:XV}{r:XV×Nat×EL}{g:Nat->AV}{K:AV->St->Prop}(h:sW nx l ⟨ty,es,L⟩ v=some r)(a:MR φ l S)(c:lu φ L g 0)(d:n=L.length)(e:XK φ r.1 r.2.2 K)
  {b:Nat} (f:S b=ab) {z:AV} (i:v=.ptr es nx 0/\z=.ptr es b 0∨v=.sl es nx 0 n/\z=.sl es b 0 n):K z (S.upd b ⟨ty,es,n,g⟩):=by
 unfold sW at h;split at h
 .rename_i j
  cases h
  obtain⟨k,m⟩:=a.new j f (ty:=ty) (es:=es) c d;refine e _ _ _ k ?_ m;rcases i with⟨rfl,rfl⟩|⟨rfl,rfl⟩
  .simp only[ER];exact⟨b,by unfold Ph.set;rw[ai rfl],rfl⟩
  .simp only[ER];exact⟨b,by unfold Ph.set;rw[ai rfl],rfl⟩
 .cases h
def zE:Nat->Option (Nat×XV)
 | 2=>some (1,.int .i64 0)
 | 3=>some (1,.int .i64 0)
 | 4=>some (1,.bool false)
 | 28=>some (1,.nil)
 | 29=>some (1,.nil)
 | 52=>some (1,.nil)
 | 59=>some (1,.nil)
 | 50=>some (2,.big 0)
 | _=>ab
def DQ{t es:Nat}{x:XV}(h:zE t=some (es,x)):∃a v,fU t=some (es,a,v)/\∀φ,ER φ x a:=by
 unfold zE at h;split at h<;>first|(cases h;exact⟨_,_,rfl,fun φ=>by simp[ER]⟩)|cases h
def zA:Nat->Option (Nat×List XV)
 | 167=>some (2,[.big 0,.big 0])
 | 197=>some (2,[.big 0,.big 0,.big 0,.big 0,.big 0,.big 0,.big 0])
 | 218=>some (1,[.nil,.int .i64 0])
 | 202=>some (1,[.int .u64 0,.int .u64 0])
 | _=>ab
def yh(t nx:Nat)(l:EL):XR:=match zE t with
 | some (es,x)=>sW nx l ⟨t,es,[x]⟩ (.ptr es nx 0)
 | ab=>match zA t with
  | some (es,L)=>sW nx l ⟨t,es,L⟩ (.ptr es nx 0)
  | ab=>ab
def Jh{φ:Ph}{t nx:Nat}{l:EL}{S:St}{r:XV×Nat×EL}{K:AV->St->Prop}(h:yh t nx l=some r)(f:MR φ l S)(g:XK φ r.1 r.2.2 K):mw t S K:=by
 unfold yh at h
 cases c:zE t with
 | some p =>
  obtain⟨es,x⟩:=p;rw[c]at h;obtain⟨a,v,i,j⟩:=DQ c;unfold mw;rw[i];exact fun b d=>pk h f (by simp only[lu];exact⟨j φ,trivial⟩) rfl g d (.inl ⟨rfl,rfl⟩)
 | none =>
  rw[c]at h;simp only at h;unfold zA at h;split at h
  .rename_i es L e;split at e<;>first
    | (cases e;exact fun b d=>pk h f (by simp[lu,ER]) rfl g d (.inl ⟨rfl,rfl⟩))
    | cases e
  .cases h
def Lf(t:Nat)(x:XV)(nx:Nat)(l:EL):XR:=match eK t with
 | some (es,k)=>match ap k 1 with
  | true=>match nj es x with
   | true=>sW nx l ⟨t,es,[x]⟩ (.ptr es nx 0)
   | false=>ab
  | false=>match x with
   | .agg L=>match ap L.length k&&ni es L with
    | true=>sW nx l ⟨t,es,L⟩ (.ptr es nx 0)
    | false=>ab
   | _=>ab
 | ab=>ab
def NN{φ:Ph}{t nx:Nat}{x:XV}{a:AV}{l:EL}{S:St}{r:XV×Nat×EL}{K:AV->St->Prop}(h:Lf t x nx l=some r)(d:ER φ x a)(j:MR φ l S)(m:XK φ r.1 r.2.2 K):jW t a S K:=by
 unfold Lf at h;unfold jW
 cases n:eK t with
 | none=>rw[n]at h;cases h
 | some p =>
  obtain⟨es,k⟩:=p;rw[n]at h;simp only at h ⊢
  cases f:ap k 1 with
  | true =>
   rw[f]at h;rw[ai (ak f)];simp only at h;split at h
   .rename_i c;exact⟨lk c d,fun b g=>pk h j (by simp only[lu];exact⟨d,trivial⟩) rfl m g (.inl ⟨rfl,rfl⟩)⟩
   .cases h
  | false =>
   rw[f]at h;rw[af (fun e=>by subst e;simp at f)]
   simp only at h;split at h
   .rename_i L;simp only[ER]at d;obtain⟨R,rfl,i⟩:=d;split at h
    .rename_i c;simp only[au]at c;have e:=ak c.1;refine⟨by rw[i.length];exact e,oP c.2 i,fun b g=>?_⟩
     exact pk h j i.toG e.symm m g (.inl ⟨rfl,rfl⟩)
    .cases h
   .cases h
def vQ(t:Nat)(x:XV)(l:EL):Option XV:=match x with
 | .pat es y=>match eK t with
  | some (es',k)=>match ap es es'&&ap k 1 with
   | true=>some y
   | false=>ab
  | ab=>ab
 | .ptr es i k0=>match en l i with
  | some (some X)=>match eK t with
   | some (es',k)=>match ap es' es&&ap X.es es&&je (k0+k) X.l.length with
    | true=>match ap k 1 with
     | true=>X.l[k0]?
     | false=>some (.agg ((X.l.drop k0).take k))
    | false=>ab
   | ab=>ab
  | _=>ab
 | _=>ab
theorem Bm{g:Nat->AV}:∀(k i j:Nat),(ee g i k)[j]? = if j<k then some (g (i+j))else ab
 | 0,i,j=>by simp[ee]
 | k+1,i,0=>by simp[ee]
 | k+1,i,j+1=>by
  simp only[ee,bV,Bm k (i+1) j,Nat.add_lt_add_iff_right];rw[(om:i+1+j=i+(j+1))]
theorem Bl{g:Nat->AV}:∀(k i:Nat),(ee g i k).length=k
 | 0,_=>rfl
 | k+1,i=>by simp[ee,Bl k]
def DX{φ:Ph}{t:Nat}{x v:XV}{a:AV}{l:EL}{S:St}{K:AV->Prop}(h:vQ t x l=some v)(d:ER φ x a)(u:MR φ l S)(o:∀z,ER φ v z->K z):oV t a S K:=by
 unfold vQ at h;split at h
 .rename_i es y;simp only[ER]at d;obtain⟨y',rfl,w⟩:=d;split at h
  .rename_i es' k p;split at h
   .rename_i c;simp only[au]at c
    cases h
    have m:=ak c.1;have q:=ak c.2;subst m q;exact⟨p,o _ w⟩
   .cases h
  .cases h
 .rename_i es i F;simp only[ER]at d;obtain⟨b,A,rfl⟩:=d;split at h
  .rename_i X B;obtain⟨b',g,m,q,s⟩:=u.live i X B;rw[A]at m;cases m;split at h
   .rename_i es' k p;split at h
    .rename_i c;simp only[au]at c;have C:=ak c.1.1;have D:=ak c.1.2;have E:=cf c.2;unfold oV;simp only[q,p];refine⟨C,D,E,?_⟩
     cases n:ap k 1 with
     | true =>
      rw[n]at h;have:=ak n;subst this;simp only at h;rw[ai rfl];have:=s.get h;rw[aB]at this;exact o _ this
     | false =>
      rw[n]at h;rw[af (fun e=>by subst e;simp at n)]
      cases h
      refine o _ ?_;simp only[ER];refine⟨_,rfl,eZ.of (by simp[Bl];omega) fun j x a d f=>?_⟩
      rw[Bm]at f;by_cases r:j<k
      .rw[ai r]at f;cases f;rw[eT r,qa]at d;have:=s.get d
       rwa [aB]at this
      .rw[af r]at f;cases f
    .cases h
   .cases h
  .cases h
 .cases h
def vZ:List XV->Nat->List XV->List XV
 | l,_,[]=>l
 | l,i,x::r=>vZ (l.set i x) (i+1) r
theorem uG:∀(r l:List XV) (i:Nat),(vZ l i r).length=l.length
 | [],_,_=>rfl
 | x::r,l,i=>by simp[vZ,uG r]
theorem uH:∀(r l:List XV) (i j:Nat),i+r.length<=l.length->(vZ l i r)[j]? = if i<=j/\j<i+r.length then r[j-i]? else l[j]?
 | [],l,i,j,_=>by
  simp only[vZ,jn,cu];rw[af om]
 | x::r,l,i,j,h=>by
  simp only[cA]at h;simp only[vZ,uH r (l.set i x) (i+1) j (by simp;omega),cA]
  by_cases e:j=i
  .subst e;rw[af om,ai om,QH om,cb];rfl
  .by_cases a:i+1<=j/\j<i+1+r.length
   .rw[ai a,ai om,(om:j-i=j-(i+1)+1),bV]
   .rw[af a,af om,xS om]
def FQ(t:Nat)(x y:XV)(l:EL):Option EL:=match x with
 | .ptr es i k0=>match en l i with
  | some (some X)=>match eK t with
   | some (es',k)=>match ap es' es&&ap X.es es&&je (k0+k) X.l.length with
    | true=>match ap k 1 with
     | true=>match nj es y with
      | true=>some (rE l i (some ⟨X.ty,X.es,X.l.set k0 y⟩))
      | false=>ab
     | false=>match y with
      | .agg L=>match ap L.length k&&ni es L with
       | true=>some (rE l i (some ⟨X.ty,X.es,vZ X.l k0 L⟩))
       | false=>ab
      | _=>ab
    | false=>ab
   | ab=>ab
  | _=>ab
 | _=>ab
def I9{φ:Ph}{t:Nat}{x y:XV}{a c:AV}{l l':EL}{S:St}{K:St->Prop}(h:FQ t x y l=some l')(d:ER φ x a)(m:ER φ y c)(q:MR φ l S)(v:∀S',MR φ l' S'->K S'):pB t a c S K:=by
 unfold FQ at h;split at h
 .rename_i es i r;simp only[ER]at d;obtain⟨b,s,rfl⟩:=d;split at h
  .rename_i X u;obtain⟨b',g,w,A,z⟩:=q.live i X u;rw[s]at w;cases w;split at h
   .rename_i es' k B;split at h
    .rename_i n;simp only[au]at n;have C:=ak n.1.1;have D:=ak n.1.2;have E:=cf n.2;unfold pB;simp only[A,B];refine⟨C,D,E,?_⟩
     cases o:ap k 1 with
     | true =>
      rw[o]at h;have:=ak o;subst this;simp only at h;rw[ai rfl];split at h
      .rename_i f
       cases h
       refine⟨lk f m,v _ (q.put u s (lu.of fun j x d=>?_) sm)⟩
       simp only[bR,aB];by_cases e:j=r
       .subst e;rw[QH om]at d;cases d;rw[ai rfl];exact m
       .rw[xS om]at d;rw[af e];have:=z.get d
        rwa [aB]at this
      .cases h
     | false =>
      rw[o]at h;rw[af (fun e=>by subst e;simp at o)]
      simp only at h;split at h
      .rename_i L;simp only[ER]at m;obtain⟨R,rfl,p⟩:=m;split at h
       .rename_i f;simp only[au]at f;have F:=ak f.1
        cases h
        refine⟨by rw[p.length];exact F,oP f.2 p,v _ (q.put u s (lu.of fun j x d=>?_) (by simp[uG]))⟩
        rw[uH _ _ _ _ om]at d;simp only[iU,aB,p.length];by_cases e:r<=j/\j<r+L.length
        .rw[ai e]at d;rw[ai e];obtain⟨a,G,H⟩:=p.get d;simp only[cF,G,fI];exact H
        .rw[af e]at d;rw[af e];have:=z.get d
         rwa [aB]at this
       .cases h
      .cases h
    .cases h
   .cases h
  .cases h
 .cases h
end

end Go.Proofs.YtdobfmlmenaajaaGreatDoor
